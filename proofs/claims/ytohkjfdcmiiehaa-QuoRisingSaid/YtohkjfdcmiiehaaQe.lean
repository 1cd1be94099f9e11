/- The whole of a division by two digits or more. -/
import Derived.Test.YtohkjfdcmiiehaaP1
import Derived.Test.YtohkjfdcmiiehaaP2
import Derived.Test.YtohkjfdcmiiehaaP10
import Derived.Test.YtohkjfdcmiiehaaQd
namespace Go.Proofs.Ytohkjfdcmiiehaa.Sp
open Go.RowKit Go.Proofs.Ytohkjfdcmiiehaa.P Go.Proofs.Ytohkjfdcmiiehaa.Num Go.Proofs.YtohkjfdcmiiehaaW.PrintWords Go.Proofs.YtohkjfdcmiiehaaW.PrintLast Go.Proofs.YtohkjfdcmiiehaaW.PrintMore

theorem LZ_eq {d : Nat} (h : d < 4294967296) : bits_LeadingZeros32.f (d : Int) = some ((32 - bl d : Nat) : Int) := by
  unfold bits_LeadingZeros32.f bits_Len32.f
  rw [if_pos (by omega), Int.toNat_natCast, bitLen_bl (by omega)]
  have : bl d ≤ 32 := bl_le.2 h
  simp only [Option.bind_some]
  rw [w64 (by omega) (by omega)]
  congr 1
  omega

/-- Moved up so that the first bit of the first digit is 1. -/
theorem norm_one {d : Nat} (h0 : d ≠ 0) (h : d < 4294967296) : 2147483648 ≤ d * 2 ^ (32 - bl d) ∧ (d + 1) * 2 ^ (32 - bl d) ≤ 4294967296 := by
  have hb : bl d ≤ 32 := bl_le.2 h
  have hb0 : bl d ≠ 0 := fun h1 => h0 (by have := bl_le.1 (Nat.le_of_eq h1); omega)
  have h1 : d < 2 ^ bl d := bl_le.1 (Nat.le_refl _)
  have h2 : 2 ^ (bl d - 1) ≤ d := by
    apply Nat.le_of_not_lt
    intro h3
    have := bl_le.2 h3
    omega
  have e1 : 2 ^ bl d * 2 ^ (32 - bl d) = 4294967296 := by rw [← Nat.pow_add, show bl d + (32 - bl d) = 32 by omega]
  have e2 : 2 ^ (bl d - 1) * 2 ^ (32 - bl d) = 2147483648 := by rw [← Nat.pow_add, show bl d - 1 + (32 - bl d) = 31 by omega]
  constructor
  · rw [← e2]; exact Nat.mul_le_mul_right _ h2
  · rw [← e1]; exact Nat.mul_le_mul_right _ h1

theorem norm_num {y P k : Nat} (hP : 0 < P) (h1 : 2147483648 ≤ y / P * 2 ^ k) (h2 : (y / P + 1) * 2 ^ k ≤ 4294967296) : 2147483648 * P ≤ y * 2 ^ k ∧ y * 2 ^ k < P * 4294967296 := by
  have a1 : P * (y / P) ≤ y := Nat.mul_div_le y P
  have a2 : y < P * (y / P + 1) := Nat.lt_mul_div_succ y hP
  constructor
  · have := Nat.mul_le_mul_left P h1
    rw [← Nat.mul_assoc, Nat.mul_comm P 2147483648] at this
    exact Nat.le_trans this (Nat.mul_le_mul_right _ a1)
  · have := Nat.mul_le_mul_left P h2
    rw [← Nat.mul_assoc] at this
    exact Nat.lt_of_lt_of_le (Nat.mul_lt_mul_of_pos_right a2 (Nat.two_pow_pos k)) this

theorem long_l0 {b : List Int} (hb : Dig b) {n m0 mQ sh A : Nat} (hbl : b.length = n) (hn : n = m0 + 2) (hy1 : 2147483648 * 4294967296 ^ (m0 + 1) ≤ val b) (hmQ : mQ + n ≤ 10000000) (hsh : sh ≤ 100)
    (hA : A / val b < 4294967296 ^ mQ) :
    ∀ (m : Nat) (U Q : List Int), m ≤ mQ → U.length = mQ + n → Q.length = mQ → Dig U → val U = A % (4294967296 ^ m * val b) → (∀ i, m ≤ i → i < mQ → Q.getD i 0 = ((A / val b / 4294967296 ^ i % 4294967296 : Nat) : Int)) →
      Ev (fun k => quo_long.l0 k b Q (sh : Int) (n : Int) U ((m : Int) - 1)) (dg (A / val b), dg (A % val b / 2 ^ sh), true) := by
  have hyl : val b < 4294967296 ^ n := by have := val_lt hb; rw [hbl] at this; exact this
  have hy0 : 0 < val b := Nat.lt_of_lt_of_le (Nat.mul_pos (by decide) (pow_pos' (m0 + 1))) hy1
  have hn1 : n ≤ 100000000 := by clear hyl hy1 hA hy0; omega
  have hsh' : (sh : Int) ≤ 9223372036854775807 := by omega
  have hsh0 : ¬ (sh : Int) < 0 := by omega
  intro m
  induction m with
  | zero =>
    intro U Q _ hUl hQl hU hv hdig
    rw [Nat.pow_zero, Nat.one_mul] at hv
    have hdQ : Dig Q := Dig_of (fun j hj => by rw [hdig j (Nat.zero_le _) (by rw [← hQl]; exact hj)]; exact nat_mod_bd _)
    have hvQ : val Q = A / val b := by
      rw [val_of_digits (A / val b) Q (fun j hj => hdig j (Nat.zero_le _) (by rw [← hQl]; exact hj)), hQl, Nat.mod_eq_of_lt hA]
    have hvU : val (U.take n) = A % val b := by
      rw [vtk U hU, hv, Nat.mod_eq_of_lt (Nat.lt_trans (Nat.mod_lt _ hy0) hyl)]
    have hlt : (U.take n).length ≤ 100000000 := by rw [List.length_take]; clear hyl hy1 hA hy0 hv hvU hvQ hdig; omega
    have hQl2 : Q.length ≤ 1000000000 := by rw [hQl]; clear hyl hy1 hA hy0 hv hvU hvQ hdig; omega
    have hUn : (n : Int) ≤ (U.length : Int) := by rw [hUl]; exact Int.ofNat_le.2 (Nat.le_add_left _ _)
    have hT : Ev (fun k => nat_Trim.f k Q) (dg (A / val b)) := Ev.eq (Trim_sp hQl2 hdQ) (by rw [hvQ])
    have hS : Ev (fun k => nat_Shr.f k (U.take n) (sh : Int)) (dg (A % val b / 2 ^ sh)) := Ev.eq (Shr_sp (Dig_take hU n) hlt hsh') (by rw [if_neg hsh0, hvU, Int.toNat_natCast])
    clear hyl hy1 hA hy0 hv hvU hvQ hdig
    refine Ev.step (f := ?F) (fun k => ?_) ?_
    rotate_left
    · simp only [quo_long.l0]
      rw [if_neg (by decide), Int.toNat_natCast]
    exact Ev.bind (f := fun k t => _) hT (Ev.ifp (Int.natCast_nonneg _) (Ev.ifp hUn (Ev.bind (f := fun k t => some (dg (A / val b), t, true)) hS (Ev.now _))))
  | succ m ih =>
    intro U Q hm hUl hQl hU hv hdig
    have hp := pow_pos' m
    have hpy : 0 < 4294967296 ^ (m + 1) * val b := Nat.mul_pos (pow_pos' (m + 1)) hy0
    have epow : 4294967296 ^ (m + 1) * val b = 4294967296 ^ m * val b * 4294967296 := by rw [Nat.pow_succ]; ac_rfl
    have hUlt : val U < 4294967296 ^ m * (val b * 4294967296) := by
      rw [hv, ← Nat.mul_assoc, ← epow]; exact Nat.mod_lt _ hpy
    have hu : val U / 4294967296 ^ m < val b * 4294967296 := Nat.div_lt_of_lt_mul hUlt
    have hyl2 : val b < 4294967296 ^ (m0 + 2) := by rw [← hn]; exact hyl
    have D := Dg_of hyl2 hy1 hu
    have hW : val U < 4294967296 ^ (m + n + 1) := by
      have e1 : 4294967296 ^ (m + n + 1) = 4294967296 ^ m * (4294967296 ^ n * 4294967296) := by rw [Nat.pow_succ, Nat.pow_add, Nat.mul_assoc]
      rw [e1]
      exact Nat.lt_of_lt_of_le hUlt (Nat.mul_le_mul_left _ (Nat.mul_le_mul_right _ (Nat.le_of_lt hyl)))
    have eq1 : val U / 4294967296 ^ m / val b = A / val b / 4294967296 ^ m % 4294967296 := by
      rw [hv, epow, Nat.div_div_eq_div_mul, Nat.mod_mul_right_div_self, Nat.mul_comm, Nat.div_div_eq_div_mul]
    have eq2 : val U % (4294967296 ^ m * val b) = A % (4294967296 ^ m * val b) := by
      rw [hv, epow, Nat.mod_mul_right_mod]
    have d1 : b.getD (m0 + 1) 0 = ((val b / 4294967296 ^ (m0 + 1) : Nat) : Int) := by rw [getD_val hb, Nat.mod_eq_of_lt D.b1l]
    have d2 : b.getD m0 0 = ((val b / 4294967296 ^ m0 % 4294967296 : Nat) : Int) := getD_val hb m0
    have dv : ∀ i, U.getD (m + i) 0 = ((val U / 4294967296 ^ m / 4294967296 ^ i % 4294967296 : Nat) : Int) := by
      intro i; rw [getD_val hU, Nat.div_div_eq_div_mul, ← Nat.pow_add]
    have d3 := dv m0
    have d4 := dv (m0 + 1)
    have d5 := dv (m0 + 2)
    have hu2 : val U / 4294967296 ^ m / 4294967296 ^ (m0 + 2) < 4294967296 := by
      apply Nat.div_lt_of_lt_mul
      exact Nat.lt_of_lt_of_le hu (Nat.mul_le_mul_right _ (Nat.le_of_lt hyl2))
    rw [Nat.mod_eq_of_lt hu2] at d5
    have etop := div_step (val U / 4294967296 ^ m) (m0 + 1)
    obtain ⟨g1, g2, g3, g4⟩ := guess_start D
    have hdd4 : val U / 4294967296 ^ m / 4294967296 ^ (m0 + 1) % 4294967296 < 4294967296 := Nat.mod_lt _ (by decide)
    have hnext : ∀ g : Nat, val U / 4294967296 ^ m / val b ≤ g → g ≤ val U / 4294967296 ^ m / val b + 1 → g < 4294967296 → Ev (fun k => quo_long.j3 k b Q (sh : Int) n U m g) (dg (A / val b), dg (A % val b / 2 ^ sh), true) := by
      intro g h1 h2 h3
      have hl : m + n + 1 ≤ U.length := by rw [hUl]; clear hp hpy epow hUlt hu hW eq1 eq2 d1 d2 dv d3 d4 d5 hu2 etop g1 g2 g3 g4 hdd4 hyl hyl2 hy1 hy0 hA hv hdig h1 h2; omega
      refine long_j3 hU hb hbl hn1 (by clear hp hpy epow hUlt hu hW eq1 eq2 d1 d2 dv d3 d4 d5 hu2 etop g1 g2 g3 g4 hdd4 hyl hyl2 hy1 hy0 hA hv hdig h1 h2; omega) hl (by rw [hQl]; exact hm) hyl hy0 hW h1 h2 h3 ?_
      intro U' hl' hd' hv'
      rw [eq1]
      refine ih U' (Q.set m _) (Nat.le_of_succ_le hm) (by rw [hl', hUl]) (by rw [List.length_set, hQl]) hd' (by rw [hv', eq2]) ?_
      intro i hi hi2
      rw [getD_set]
      by_cases h : m = i
      · subst h; rw [if_pos ⟨rfl, by rw [hQl]; exact hi2⟩]
      · rw [if_neg (fun h2 => h h2.1)]; exact hdig i (Nat.lt_of_le_of_ne hi h) hi2
    have hmn : m + n < U.length := by rw [hUl]; exact Nat.add_lt_add_right hm n
    have hm1 : m ≤ 100000000 := by clear hp hpy epow hUlt hu hW eq1 eq2 d1 d2 dv d3 d4 d5 hu2 etop g1 g2 g3 g4 hdd4 hyl hyl2 hy1 hy0 hA hv hdig; omega
    have L1 := long_l1 D hn hbl hn1 hm1 hmn d1 d2 d3 hnext 2 _ _ (Nat.le_add_left _ _) g4 g3 g1 g2
    refine Ev.step (fun k => ?_) L1
    have hb1l := D.b1l
    have hb1g := D.b1g
    obtain ⟨w0, w1, w2, w3⟩ : ((m + 1 : Nat) : Int) - 1 = (m : Int) ∧ wrap64 ((m : Int) + (n : Int)) = ((m + n : Nat) : Int) ∧ wrap64 (((m + n : Nat) : Int) - 1) = ((m + (m0 + 1) : Nat) : Int) ∧ wrap64 ((n : Int) - 1) = ((m0 + 1 : Nat) : Int) := by
      clear L1 hnext hp hpy epow hUlt hu hW eq1 eq2 d1 d2 dv d3 d4 d5 hu2 etop g1 g2 g3 g4 hdd4 hyl hyl2 hy1 hy0 hA hv hdig hb1l hb1g D ih
      refine ⟨by omega, ?_, ?_, ?_⟩
      · rw [w64 (by omega) (by omega)]; omega
      · rw [w64 (by omega) (by omega)]; omega
      · rw [w64 (by omega) (by omega)]; omega
    have i1 : ((m + n : Nat) : Int) < (U.length : Int) := Int.ofNat_lt.2 hmn
    have i2 : ((m + (m0 + 1) : Nat) : Int) < (U.length : Int) := Int.ofNat_lt.2 (Nat.lt_of_le_of_lt (by rw [hn]; exact Nat.add_le_add_left (Nat.le_succ _) _) hmn)
    have i3 : ((m0 + 1 : Nat) : Int) < (b.length : Int) := Int.ofNat_lt.2 (by rw [hbl, hn]; exact Nat.lt_succ_self _)
    have hor : Go.bits .or .u64 (IntKind.u64.wrap (IntKind.u64.wrap (rd U ((m + n : Nat) : Int)) * 4294967296)) (IntKind.u64.wrap (rd U ((m + (m0 + 1) : Nat) : Int))) = ((val U / 4294967296 ^ m / 4294967296 ^ (m0 + 1) : Nat) : Int) := by
      rw [rd_nat, rd_nat, hn, d5, d4, or64n hu2 hdd4, ← etop]
    have hb1 : IntKind.u64.wrap (rd b ((m0 + 1 : Nat) : Int)) = ((val b / 4294967296 ^ (m0 + 1) : Nat) : Int) := by
      rw [rd_nat, d1]
      generalize val b / 4294967296 ^ (m0 + 1) = z at hb1l
      rw [u64 (by omega) (by omega)]
    have hb10 : ¬ ((val b / 4294967296 ^ (m0 + 1) : Nat) : Int) = 0 := by
      generalize val b / 4294967296 ^ (m0 + 1) = z at hb1g
      omega
    simp only [quo_long.l0]
    rw [w0, if_pos (show (m : Int) ≥ 0 from Int.natCast_nonneg _), w1, if_pos (Int.natCast_nonneg _), if_pos i1, w2, if_pos (Int.natCast_nonneg _), if_pos i2, w3, if_pos (Int.natCast_nonneg _), if_pos i3, hor, hb1, if_neg hb10, tdivn, tmodn]
    generalize val U / 4294967296 ^ m / 4294967296 ^ (m0 + 1) / (val b / 4294967296 ^ (m0 + 1)) = z at g2
    rw [u64 (by omega) (by omega)]

end Go.Proofs.Ytohkjfdcmiiehaa.Sp
