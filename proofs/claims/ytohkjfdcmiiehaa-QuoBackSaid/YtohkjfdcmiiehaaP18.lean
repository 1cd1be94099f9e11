/- What the Go functions of these names come to, as plain Lean functions, and the walks that show it. Written for this claim by a turned copy of the print program; Lean checks it. -/
import Derived.Test.YtohkjfdcmiiehaaP0
import Derived.Test.YtohkjfdcmiiehaaP1
import Derived.Test.YtohkjfdcmiiehaaP3
import Derived.Test.YtohkjfdcmiiehaaP4
import Derived.Test.YtohkjfdcmiiehaaP11
import Derived.Test.YtohkjfdcmiiehaaP15
namespace Go.Proofs.Ytohkjfdcmiiehaa.P
open Go.RowKit Go.Proofs.YtohkjfdcmiiehaaW.PrintWords Go.Proofs.YtohkjfdcmiiehaaW.PrintLast Go.Proofs.YtohkjfdcmiiehaaW.PrintMore
attribute [local go_sem] max2_int min2_int max_two min_two max_three min_three max_four min_four   -- for this text's walks alone
set_option linter.unusedVariables false
set_option linter.unusedSimpArgs false

/-! ### astrolabelaw03_QuoBack: function 5 -/
def astrolabelaw03_QuoBack.f (k : Nat) (l0 : List Int) (l1 : List Int) : Option (Bool) := (astrolabelaw03_examples.f k).bind fun t649 => (if t649 = true then (if 0 ≤ (mn (l0.length : Int) 30) then (if (mn (l0.length : Int) 30) ≤ (l0.length : Int) then (if 0 ≤ (mn (l1.length : Int) 30) then (if (mn (l1.length : Int) 30) ≤ (l1.length : Int) then ((quo_DivMod.f k (l0.take ((mn (l0.length : Int) 30) : Int).toNat) (l1.take ((mn (l1.length : Int) 30) : Int).toNat)).bind fun bt652 => ((nat_Bits.f k (l1.take ((mn (l1.length : Int) 30) : Int).toNat)).bind fun t659 => (if t659 = 0 then (if bt652.2.2 = true then (none) else (if (bt652.1.length : Int) = 0 then (some ((bt652.2.1.length : Int) == 0)) else (none))) else ((nat_Mul.f k bt652.1 (l1.take ((mn (l1.length : Int) 30) : Int).toNat)).bind fun t660 => ((nat_Add.f k t660 bt652.2.1).bind fun t663 => ((nat_Trim.f k (l0.take ((mn (l0.length : Int) 30) : Int).toNat)).bind fun t666 => ((astrolabelaw03_digits.f k t663 t666).bind fun t669 => ((nat_Mul.f k (l0.take ((mn (l0.length : Int) 30) : Int).toNat) (l1.take ((mn (l1.length : Int) 30) : Int).toNat)).bind fun t670 => ((quo_DivMod.f k t670 (l1.take ((mn (l1.length : Int) 30) : Int).toNat)).bind fun bt673 => ((nat_Trim.f k (l0.take ((mn (l0.length : Int) 30) : Int).toNat)).bind fun t680 => ((astrolabelaw03_digits.f k bt673.1 t680).bind fun t683 => (if bt652.2.2 = true then (if t669 = true then ((nat_Cmp.f k bt652.2.1 (l1.take ((mn (l1.length : Int) 30) : Int).toNat)).bind fun t684 => (if t684 < 0 then (if bt673.2.2 = true then (if t683 = true then (some ((bt673.2.1.length : Int) == 0)) else (none)) else (none)) else (none))) else (none)) else (none))))))))))))) else (none)) else (none)) else (none)) else (none)) else (none))
theorem astrolabelaw03_QuoBack.mono : ∀ a0 a1 k, LeO (astrolabelaw03_QuoBack.f k a0 a1) (astrolabelaw03_QuoBack.f (k + 1) a0 a1) := by
  intro a0 a1 k
  unfold astrolabelaw03_QuoBack.f
  repeat' first
      | (with_reducible exact astrolabelaw03_digits.mono _ _ _)
      | (with_reducible exact astrolabelaw03_examples.mono _)
      | (with_reducible exact nat_Add.mono _ _ _)
      | (with_reducible exact nat_Bits.mono _ _)
      | (with_reducible exact nat_Cmp.mono _ _ _)
      | (with_reducible exact nat_Mul.mono _ _ _)
      | (with_reducible exact nat_Trim.mono _ _)
      | (with_reducible exact quo_DivMod.mono _ _ _)
      | (with_reducible exact LeO.refl _)
      | (with_reducible exact LeO.none _)
      | (with_reducible refine LeO.ite ?_ ?_)
      | (with_reducible refine LeO.bind ?_ (fun _ => ?_))
      | exact astrolabelaw03_digits.mono _ _ _
      | exact astrolabelaw03_examples.mono _
      | exact nat_Add.mono _ _ _
      | exact nat_Bits.mono _ _
      | exact nat_Cmp.mono _ _ _
      | exact nat_Mul.mono _ _ _
      | exact nat_Trim.mono _ _
      | exact quo_DivMod.mono _ _ _
      | exact LeO.none _
      | refine LeO.ite ?_ ?_
      | refine LeO.bind ?_ (fun _ => ?_)
set_option maxHeartbeats 8000000 in
set_option maxRecDepth 100000 in
theorem astrolabelaw03_QuoBack.calls (k : Nat) (A0 : Option Addr) (c0 : Nat) (l0 : List Int) (A1 : Option Addr) (c1 : Nat) (l1 : List Int) (r : Bool) (w : World) (hr0 : Kd.C (Kd.int .u32) w A0 l0.length l0) (hc0 : l0.length ≤ c0) (hr1 : Kd.C (Kd.int .u32) w A1 l1.length l1) (hc1 : l1.length ≤ c1) (h : astrolabelaw03_QuoBack.f k l0 l1 = some r) :
    Calls Try.prog 5 #[.slice A0 l0.length c0, .slice A1 l1.length c1] w fun e w' => e = .returned (.bool r) ∧ Below w.heap.size w w' := by
  have HR0 := Aside0.mk hr0
  have HC0 := Aside0.mk hc0
  clear hr0 hc0
  have HR1 := Aside0.mk hr1
  have HC1 := Aside0.mk hc1
  clear hr1 hc1
  have HB := Aside0.mk (Below.refl w.heap.size w)
  have H : ((astrolabelaw03_examples.f k).bind fun t649 => (if t649 = true then (if 0 ≤ (mn (l0.length : Int) 30) then (if (mn (l0.length : Int) 30) ≤ (l0.length : Int) then (if 0 ≤ (mn (l1.length : Int) 30) then (if (mn (l1.length : Int) 30) ≤ (l1.length : Int) then ((quo_DivMod.f k (l0.take ((mn (l0.length : Int) 30) : Int).toNat) (l1.take ((mn (l1.length : Int) 30) : Int).toNat)).bind fun bt652 => ((nat_Bits.f k (l1.take ((mn (l1.length : Int) 30) : Int).toNat)).bind fun t659 => (if t659 = 0 then (if bt652.2.2 = true then (none) else (if (bt652.1.length : Int) = 0 then (some ((bt652.2.1.length : Int) == 0)) else (none))) else ((nat_Mul.f k bt652.1 (l1.take ((mn (l1.length : Int) 30) : Int).toNat)).bind fun t660 => ((nat_Add.f k t660 bt652.2.1).bind fun t663 => ((nat_Trim.f k (l0.take ((mn (l0.length : Int) 30) : Int).toNat)).bind fun t666 => ((astrolabelaw03_digits.f k t663 t666).bind fun t669 => ((nat_Mul.f k (l0.take ((mn (l0.length : Int) 30) : Int).toNat) (l1.take ((mn (l1.length : Int) 30) : Int).toNat)).bind fun t670 => ((quo_DivMod.f k t670 (l1.take ((mn (l1.length : Int) 30) : Int).toNat)).bind fun bt673 => ((nat_Trim.f k (l0.take ((mn (l0.length : Int) 30) : Int).toNat)).bind fun t680 => ((astrolabelaw03_digits.f k bt673.1 t680).bind fun t683 => (if bt652.2.2 = true then (if t669 = true then ((nat_Cmp.f k bt652.2.1 (l1.take ((mn (l1.length : Int) 30) : Int).toNat)).bind fun t684 => (if t684 < 0 then (if bt673.2.2 = true then (if t683 = true then (some ((bt673.2.1.length : Int) == 0)) else (none)) else (none)) else (none))) else (none)) else (none))))))))))))) else (none)) else (none)) else (none)) else (none)) else (none))) = some r := h
  clear h
  replace H := Option.bind_eq_some_iff.mp H
  obtain ⟨t649, A30, H⟩ := H
  replace H : (if t649 = true then (if 0 ≤ (mn (l0.length : Int) 30) then (if (mn (l0.length : Int) 30) ≤ (l0.length : Int) then (if 0 ≤ (mn (l1.length : Int) 30) then (if (mn (l1.length : Int) 30) ≤ (l1.length : Int) then ((quo_DivMod.f k (l0.take ((mn (l0.length : Int) 30) : Int).toNat) (l1.take ((mn (l1.length : Int) 30) : Int).toNat)).bind fun bt652 => ((nat_Bits.f k (l1.take ((mn (l1.length : Int) 30) : Int).toNat)).bind fun t659 => (if t659 = 0 then (if bt652.2.2 = true then (none) else (if (bt652.1.length : Int) = 0 then (some ((bt652.2.1.length : Int) == 0)) else (none))) else ((nat_Mul.f k bt652.1 (l1.take ((mn (l1.length : Int) 30) : Int).toNat)).bind fun t660 => ((nat_Add.f k t660 bt652.2.1).bind fun t663 => ((nat_Trim.f k (l0.take ((mn (l0.length : Int) 30) : Int).toNat)).bind fun t666 => ((astrolabelaw03_digits.f k t663 t666).bind fun t669 => ((nat_Mul.f k (l0.take ((mn (l0.length : Int) 30) : Int).toNat) (l1.take ((mn (l1.length : Int) 30) : Int).toNat)).bind fun t670 => ((quo_DivMod.f k t670 (l1.take ((mn (l1.length : Int) 30) : Int).toNat)).bind fun bt673 => ((nat_Trim.f k (l0.take ((mn (l0.length : Int) 30) : Int).toNat)).bind fun t680 => ((astrolabelaw03_digits.f k bt673.1 t680).bind fun t683 => (if bt652.2.2 = true then (if t669 = true then ((nat_Cmp.f k bt652.2.1 (l1.take ((mn (l1.length : Int) 30) : Int).toNat)).bind fun t684 => (if t684 < 0 then (if bt673.2.2 = true then (if t683 = true then (some ((bt673.2.1.length : Int) == 0)) else (none)) else (none)) else (none))) else (none)) else (none))))))))))))) else (none)) else (none)) else (none)) else (none)) else (none)) = some r := H
  have A3 := Aside0.mk A30
  clear A30
  by_cases c4 : t649 = true
  · subst c4
    have H1 : (if 0 ≤ (mn (l0.length : Int) 30) then (if (mn (l0.length : Int) 30) ≤ (l0.length : Int) then (if 0 ≤ (mn (l1.length : Int) 30) then (if (mn (l1.length : Int) 30) ≤ (l1.length : Int) then ((quo_DivMod.f k (l0.take ((mn (l0.length : Int) 30) : Int).toNat) (l1.take ((mn (l1.length : Int) 30) : Int).toNat)).bind fun bt652 => ((nat_Bits.f k (l1.take ((mn (l1.length : Int) 30) : Int).toNat)).bind fun t659 => (if t659 = 0 then (if bt652.2.2 = true then (none) else (if (bt652.1.length : Int) = 0 then (some ((bt652.2.1.length : Int) == 0)) else (none))) else ((nat_Mul.f k bt652.1 (l1.take ((mn (l1.length : Int) 30) : Int).toNat)).bind fun t660 => ((nat_Add.f k t660 bt652.2.1).bind fun t663 => ((nat_Trim.f k (l0.take ((mn (l0.length : Int) 30) : Int).toNat)).bind fun t666 => ((astrolabelaw03_digits.f k t663 t666).bind fun t669 => ((nat_Mul.f k (l0.take ((mn (l0.length : Int) 30) : Int).toNat) (l1.take ((mn (l1.length : Int) 30) : Int).toNat)).bind fun t670 => ((quo_DivMod.f k t670 (l1.take ((mn (l1.length : Int) 30) : Int).toNat)).bind fun bt673 => ((nat_Trim.f k (l0.take ((mn (l0.length : Int) 30) : Int).toNat)).bind fun t680 => ((astrolabelaw03_digits.f k bt673.1 t680).bind fun t683 => (if bt652.2.2 = true then (if t669 = true then ((nat_Cmp.f k bt652.2.1 (l1.take ((mn (l1.length : Int) 30) : Int).toNat)).bind fun t684 => (if t684 < 0 then (if bt673.2.2 = true then (if t683 = true then (some ((bt673.2.1.length : Int) == 0)) else (none)) else (none)) else (none))) else (none)) else (none))))))))))))) else (none)) else (none)) else (none)) else (none)) = some r := by rw [if_pos rfl] at H; exact H
    clear H
    have H := H1
    clear H1
    obtain ⟨ji5, hji5⟩ : ∃ j_ : Int, (mn (l0.length : Int) 30) = j_ := ⟨_, rfl⟩
    replace H : (if 0 ≤ (ji5) then (if (ji5) ≤ (l0.length : Int) then (if 0 ≤ (mn (l1.length : Int) 30) then (if (mn (l1.length : Int) 30) ≤ (l1.length : Int) then ((quo_DivMod.f k (l0.take ((ji5) : Int).toNat) (l1.take ((mn (l1.length : Int) 30) : Int).toNat)).bind fun bt652 => ((nat_Bits.f k (l1.take ((mn (l1.length : Int) 30) : Int).toNat)).bind fun t659 => (if t659 = 0 then (if bt652.2.2 = true then (none) else (if (bt652.1.length : Int) = 0 then (some ((bt652.2.1.length : Int) == 0)) else (none))) else ((nat_Mul.f k bt652.1 (l1.take ((mn (l1.length : Int) 30) : Int).toNat)).bind fun t660 => ((nat_Add.f k t660 bt652.2.1).bind fun t663 => ((nat_Trim.f k (l0.take ((ji5) : Int).toNat)).bind fun t666 => ((astrolabelaw03_digits.f k t663 t666).bind fun t669 => ((nat_Mul.f k (l0.take ((ji5) : Int).toNat) (l1.take ((mn (l1.length : Int) 30) : Int).toNat)).bind fun t670 => ((quo_DivMod.f k t670 (l1.take ((mn (l1.length : Int) 30) : Int).toNat)).bind fun bt673 => ((nat_Trim.f k (l0.take ((ji5) : Int).toNat)).bind fun t680 => ((astrolabelaw03_digits.f k bt673.1 t680).bind fun t683 => (if bt652.2.2 = true then (if t669 = true then ((nat_Cmp.f k bt652.2.1 (l1.take ((mn (l1.length : Int) 30) : Int).toNat)).bind fun t684 => (if t684 < 0 then (if bt673.2.2 = true then (if t683 = true then (some ((bt673.2.1.length : Int) == 0)) else (none)) else (none)) else (none))) else (none)) else (none))))))))))))) else (none)) else (none)) else (none)) else (none)) = some r := by first | (rw [hji5] at H; exact H) | (simp only [hji5] at H ⊢; exact H)
    (try rw [hji5] at A3)
    (try (have hji5h : ji5 ≤ 30 := by (rw [← hji5]; unfold mn; (repeat' split) <;> omega)))
    (try (have hji5g : ji5 ≤ 64 := by omega))
    (try (have hji5l : 0 ≤ ji5 := by (rw [← hji5]; unfold mn; (repeat' split) <;> omega)))
    (try (have hji5m : 0 ≤ ji5 := by omega))
    have hji5_ : (if 30 < (l0.length : Int) then 30 else (l0.length : Int)) = ji5 := hji5
    by_cases c6 : 0 ≤ (ji5)
    case neg => rw [if_neg c6] at H; exact absurd H (by simp)
    rw [if_pos c6] at H
    have c6b0 := eq_true c6
    have c6b1 : decide (0 ≤ (ji5)) = true := decide_eq_true c6
    clear c6
    by_cases c7 : (ji5) ≤ (l0.length : Int)
    case neg => rw [if_neg c7] at H; exact absurd H (by simp)
    rw [if_pos c7] at H
    have c7b0 := eq_true c7
    have c7b1 : decide ((ji5) ≤ (l0.length : Int)) = true := decide_eq_true c7
    clear c7
    obtain ⟨ji8, hji8⟩ : ∃ j_ : Int, (mn (l1.length : Int) 30) = j_ := ⟨_, rfl⟩
    replace H : (if 0 ≤ (ji8) then (if (ji8) ≤ (l1.length : Int) then ((quo_DivMod.f k (l0.take ((ji5) : Int).toNat) (l1.take ((ji8) : Int).toNat)).bind fun bt652 => ((nat_Bits.f k (l1.take ((ji8) : Int).toNat)).bind fun t659 => (if t659 = 0 then (if bt652.2.2 = true then (none) else (if (bt652.1.length : Int) = 0 then (some ((bt652.2.1.length : Int) == 0)) else (none))) else ((nat_Mul.f k bt652.1 (l1.take ((ji8) : Int).toNat)).bind fun t660 => ((nat_Add.f k t660 bt652.2.1).bind fun t663 => ((nat_Trim.f k (l0.take ((ji5) : Int).toNat)).bind fun t666 => ((astrolabelaw03_digits.f k t663 t666).bind fun t669 => ((nat_Mul.f k (l0.take ((ji5) : Int).toNat) (l1.take ((ji8) : Int).toNat)).bind fun t670 => ((quo_DivMod.f k t670 (l1.take ((ji8) : Int).toNat)).bind fun bt673 => ((nat_Trim.f k (l0.take ((ji5) : Int).toNat)).bind fun t680 => ((astrolabelaw03_digits.f k bt673.1 t680).bind fun t683 => (if bt652.2.2 = true then (if t669 = true then ((nat_Cmp.f k bt652.2.1 (l1.take ((ji8) : Int).toNat)).bind fun t684 => (if t684 < 0 then (if bt673.2.2 = true then (if t683 = true then (some ((bt673.2.1.length : Int) == 0)) else (none)) else (none)) else (none))) else (none)) else (none))))))))))))) else (none)) else (none)) = some r := by first | (rw [hji8] at H; exact H) | (simp only [hji8] at H ⊢; exact H)
    (try rw [hji8] at A3)
    (try (have hji8h : ji8 ≤ 30 := by (rw [← hji8]; unfold mn; (repeat' split) <;> omega)))
    (try (have hji8g : ji8 ≤ 64 := by omega))
    (try (have hji8l : 0 ≤ ji8 := by (rw [← hji8]; unfold mn; (repeat' split) <;> omega)))
    (try (have hji8m : 0 ≤ ji8 := by omega))
    have hji8_ : (if 30 < (l1.length : Int) then 30 else (l1.length : Int)) = ji8 := hji8
    by_cases c9 : 0 ≤ (ji8)
    case neg => rw [if_neg c9] at H; exact absurd H (by simp)
    rw [if_pos c9] at H
    have c9b0 := eq_true c9
    have c9b1 : decide (0 ≤ (ji8)) = true := decide_eq_true c9
    clear c9
    by_cases c10 : (ji8) ≤ (l1.length : Int)
    case neg => rw [if_neg c10] at H; exact absurd H (by simp)
    rw [if_pos c10] at H
    have c10b0 := eq_true c10
    have c10b1 : decide ((ji8) ≤ (l1.length : Int)) = true := decide_eq_true c10
    clear c10
    replace H := Option.bind_eq_some_iff.mp H
    obtain ⟨⟨t652, t655, t658⟩, A110, H⟩ := H
    replace H : ((nat_Bits.f k (l1.take ((ji8) : Int).toNat)).bind fun t659 => (if t659 = 0 then (if t658 = true then (none) else (if (t652.length : Int) = 0 then (some ((t655.length : Int) == 0)) else (none))) else ((nat_Mul.f k t652 (l1.take ((ji8) : Int).toNat)).bind fun t660 => ((nat_Add.f k t660 t655).bind fun t663 => ((nat_Trim.f k (l0.take ((ji5) : Int).toNat)).bind fun t666 => ((astrolabelaw03_digits.f k t663 t666).bind fun t669 => ((nat_Mul.f k (l0.take ((ji5) : Int).toNat) (l1.take ((ji8) : Int).toNat)).bind fun t670 => ((quo_DivMod.f k t670 (l1.take ((ji8) : Int).toNat)).bind fun bt673 => ((nat_Trim.f k (l0.take ((ji5) : Int).toNat)).bind fun t680 => ((astrolabelaw03_digits.f k bt673.1 t680).bind fun t683 => (if t658 = true then (if t669 = true then ((nat_Cmp.f k t655 (l1.take ((ji8) : Int).toNat)).bind fun t684 => (if t684 < 0 then (if bt673.2.2 = true then (if t683 = true then (some ((bt673.2.1.length : Int) == 0)) else (none)) else (none)) else (none))) else (none)) else (none)))))))))))) = some r := H
    have A11 := Aside0.mk A110
    clear A110
    replace H := Option.bind_eq_some_iff.mp H
    obtain ⟨t659, A120, H⟩ := H
    replace H : (if t659 = 0 then (if t658 = true then (none) else (if (t652.length : Int) = 0 then (some ((t655.length : Int) == 0)) else (none))) else ((nat_Mul.f k t652 (l1.take ((ji8) : Int).toNat)).bind fun t660 => ((nat_Add.f k t660 t655).bind fun t663 => ((nat_Trim.f k (l0.take ((ji5) : Int).toNat)).bind fun t666 => ((astrolabelaw03_digits.f k t663 t666).bind fun t669 => ((nat_Mul.f k (l0.take ((ji5) : Int).toNat) (l1.take ((ji8) : Int).toNat)).bind fun t670 => ((quo_DivMod.f k t670 (l1.take ((ji8) : Int).toNat)).bind fun bt673 => ((nat_Trim.f k (l0.take ((ji5) : Int).toNat)).bind fun t680 => ((astrolabelaw03_digits.f k bt673.1 t680).bind fun t683 => (if t658 = true then (if t669 = true then ((nat_Cmp.f k t655 (l1.take ((ji8) : Int).toNat)).bind fun t684 => (if t684 < 0 then (if bt673.2.2 = true then (if t683 = true then (some ((bt673.2.1.length : Int) == 0)) else (none)) else (none)) else (none))) else (none)) else (none))))))))))) = some r := H
    have A12 := Aside0.mk A120
    clear A120
    by_cases c13 : t659 = 0
    · rw [if_pos c13] at H
      have c13b0 : (t659 == 0) = true := beq_iff_eq.mpr c13
      have c13b1 : (t659 != 0) = false := bne_eq_false_iff_eq.mpr c13
      clear c13
      by_cases c14 : t658 = true
      · subst c14
        have H1 : (none) = some r := by rw [if_pos rfl] at H; exact H
        clear H
        have H := H1
        clear H1
        exact absurd H (by simp)
      · replace c14 := Bool.eq_false_iff.mpr c14
        subst c14
        have H1 : (if (t652.length : Int) = 0 then (some ((t655.length : Int) == 0)) else (none)) = some r := by rw [if_neg (show ¬ (false = true) by decide)] at H; exact H
        clear H
        have H := H1
        clear H1
        by_cases c15 : (t652.length : Int) = 0
        case neg => rw [if_neg c15] at H; exact absurd H (by simp)
        rw [if_pos c15] at H
        have c15b0 : ((t652.length : Int) == 0) = true := beq_iff_eq.mpr c15
        have c15b1 : ((t652.length : Int) != 0) = false := bne_eq_false_iff_eq.mpr c15
        clear c15
        obtain rfl := Option.some.inj H
        go_enter Try.func5, Try.ntmps5
        go_wp2_with (first | ((with_reducible refine gate_callee (f := 11) rfl ?_); refine goesM_ (some 14) Try.func11 #[] rfl ?_; (with_reducible refine (astrolabelaw03_examples.calls k  true _ A3.out).mono ?_); rintro e w16 ⟨rfl, hb⟩; refine ⟨_, rfl, ?_⟩; have n0_ := Aside0.mk (below_step bl_ hb); clear HB; have HB := n0_; clear n0_; (try clear hb); (try clear hb2); (try clear hk); (try clear hi); obtain ⟨i017, hi017, _, hsz17, _⟩ := info_parts info37; obtain ⟨hcut17, hA17, hC17⟩ := print_take_of (P := Try.prog) (Value.int .u32) 0 22 37 .i64 Try.underlying22 hi017 hsz17 A0 c0 l0 (ji5) od_ od_ HC0.out; have HR650 := Aside0.mk (Kd.C_of_reads (h1 := fun _ => rfl) (hA17 _ (Kd.reads_of_C HR0.out))); have HC650 := Aside0.mk hC17; clear hA17 hC17 hi017 hsz17; obtain ⟨i018, hi018, _, hsz18, _⟩ := info_parts info37; obtain ⟨hcut18, hA18, hC18⟩ := print_take_of (P := Try.prog) (Value.int .u32) 0 22 37 .i64 Try.underlying22 hi018 hsz18 A1 c1 l1 (ji8) od_ od_ HC1.out; have HR651 := Aside0.mk (Kd.C_of_reads (h1 := fun _ => rfl) (hA18 _ (Kd.reads_of_C HR1.out))); have HC651 := Aside0.mk hC18; clear hA18 hC18 hi018 hsz18) | ((with_reducible refine gate_callee (f := 12) rfl ?_); refine goesM_ (some 30) Try.func12 #[.slice A0 (l0.take ((ji5) : Int).toNat).length c0, .slice A1 (l1.take ((ji8) : Int).toNat).length c1] rfl ?_ (by (try simp only [List.map_toArray, List.map_cons, List.map_nil]); first | done | (rw [show (l0.take ((ji5) : Int).toNat).length = (ji5).toNat from (by rw [List.length_take]; have h_ : ((ji5) : Int) ≤ (l0.length : Int) := (by first | exact od_ | (rw [← hji5]; unfold mn; split <;> omega)); omega)] <;> rfl) | (rw [show (l1.take ((ji8) : Int).toNat).length = (ji8).toNat from (by rw [List.length_take]; have h_ : ((ji8) : Int) ≤ (l1.length : Int) := (by first | exact od_ | (rw [← hji8]; unfold mn; split <;> omega)); omega)] <;> rfl) | (rw [show (l0.take ((ji5) : Int).toNat).length = (ji5).toNat from (by rw [List.length_take]; have h_ : ((ji5) : Int) ≤ (l0.length : Int) := (by first | exact od_ | (rw [← hji5]; unfold mn; split <;> omega)); omega), show (l1.take ((ji8) : Int).toNat).length = (ji8).toNat from (by rw [List.length_take]; have h_ : ((ji8) : Int) ≤ (l1.length : Int) := (by first | exact od_ | (rw [← hji8]; unfold mn; split <;> omega)); omega)] <;> rfl) | (simp only [hji5, hji8]; rfl) | rfl | (simp only [List.length_drop, List.length_take]; rfl)); (with_reducible refine (quo_DivMod.calls k _ _ (l0.take ((ji5) : Int).toNat) _ _ (l1.take ((ji8) : Int).toNat) t652 t655 false _ ?side1 ?side2 ?side3 ?side4 A11.out).mono ?_); (case side1 => repeat (first | exact (Kd.C_below HR650.out HB.out) | (with_reducible refine Kd.C_alloc ?_ _) | (with_reducible refine Kd.C_drewN ?_ _) | (with_reducible refine Kd.C_drew ?_))); (case side2 => exact HC650.out); (case side3 => repeat (first | exact (Kd.C_below HR651.out HB.out) | (with_reducible refine Kd.C_alloc ?_ _) | (with_reducible refine Kd.C_drewN ?_ _) | (with_reducible refine Kd.C_drew ?_))); (case side4 => exact HC651.out); rintro e w19 ⟨v653, v656, rfl, ho0, ho1, hb⟩; refine ⟨_, rfl, ?_⟩; have n0_ := Aside0.mk (Kd.R_lower (Kd.R_mono (ok' := fun k_ => True) ho0 (fun _ hk_ => trivial)) (below_size bl_)); have n1_ := Aside0.mk (Kd.V_lower (Kd.V_mono (ok' := fun k_ => some k_ ≠ (v653 : Value).ownBlock) ho1 (fun k_ hk_ => hk_.2)) (below_size bl_)); have n2_ := Aside0.mk (below_step bl_ hb); clear HB; have HO654 := n0_; have HO657 := n1_; have HB := n2_; clear n0_ n1_ n2_; (try clear hb); (try clear hb2); (try clear hk); (try clear hi); (try clear ho0); (try clear ho1)) | ((with_reducible refine gate_callee (f := 19) rfl ?_); refine goesM_ (some 35) Try.func19 #[.slice A1 (l1.take ((ji8) : Int).toNat).length c1] rfl ?_ (by (try simp only [List.map_toArray, List.map_cons, List.map_nil]); first | done | (rw [show (l1.take ((ji8) : Int).toNat).length = (ji8).toNat from (by rw [List.length_take]; have h_ : ((ji8) : Int) ≤ (l1.length : Int) := (by first | exact od_ | (rw [← hji8]; unfold mn; split <;> omega)); omega)] <;> rfl) | (simp only [hji8]; rfl) | rfl | (simp only [List.length_drop, List.length_take]; rfl)); (with_reducible refine (nat_Bits.calls k _ _ (l1.take ((ji8) : Int).toNat) t659 _ ?side1 ?side2 A12.out).mono ?_); (case side1 => repeat (first | exact (Kd.C_below HR651.out HB.out) | (with_reducible refine Kd.C_alloc ?_ _) | (with_reducible refine Kd.C_drewN ?_ _) | (with_reducible refine Kd.C_drew ?_))); (case side2 => exact HC651.out); rintro e w20 ⟨rfl, hb⟩; refine ⟨_, rfl, ?_⟩; have n0_ := Aside0.mk (Kd.R_below (mvR HO654.out) hb); have n1_ := Aside0.mk (Kd.V_below (mvV HO657.out) hb); have n2_ := Aside0.mk (below_step bl_ hb); clear HO654; clear HO657; clear HB; have HO654 := n0_; have HO657 := n1_; have HB := n2_; clear n0_ n1_ n2_; (try clear hb); (try clear hb2); (try clear hk); (try clear hi); obtain ⟨Ao21, co21, eo21⟩ := Kd.R_slice HO654.out; subst eo21; obtain ⟨Ao22, co22, eo22⟩ := Kd.V_slice HO657.out; subst eo22))
        go_ret
        exact ⟨by first | rfl | (simp [errW_none, errW_some] <;> rfl) | (simp only [← hji5, ← hji8]; first | rfl | (simp [errW_none, errW_some] <;> rfl)) | (simp [*, errW_none, errW_some] <;> rfl), bl_⟩
    · rw [if_neg c13] at H
      have c13b0 : (t659 == 0) = false := beq_eq_false_iff_ne.mpr c13
      have c13b1 : (t659 != 0) = true := bne_iff_ne.mpr c13
      replace H := Option.bind_eq_some_iff.mp H
      obtain ⟨t660, A230, H⟩ := H
      replace H : ((nat_Add.f k t660 t655).bind fun t663 => ((nat_Trim.f k (l0.take ((ji5) : Int).toNat)).bind fun t666 => ((astrolabelaw03_digits.f k t663 t666).bind fun t669 => ((nat_Mul.f k (l0.take ((ji5) : Int).toNat) (l1.take ((ji8) : Int).toNat)).bind fun t670 => ((quo_DivMod.f k t670 (l1.take ((ji8) : Int).toNat)).bind fun bt673 => ((nat_Trim.f k (l0.take ((ji5) : Int).toNat)).bind fun t680 => ((astrolabelaw03_digits.f k bt673.1 t680).bind fun t683 => (if t658 = true then (if t669 = true then ((nat_Cmp.f k t655 (l1.take ((ji8) : Int).toNat)).bind fun t684 => (if t684 < 0 then (if bt673.2.2 = true then (if t683 = true then (some ((bt673.2.1.length : Int) == 0)) else (none)) else (none)) else (none))) else (none)) else (none))))))))) = some r := H
      have A23 := Aside0.mk A230
      clear A230
      replace H := Option.bind_eq_some_iff.mp H
      obtain ⟨t663, A240, H⟩ := H
      replace H : ((nat_Trim.f k (l0.take ((ji5) : Int).toNat)).bind fun t666 => ((astrolabelaw03_digits.f k t663 t666).bind fun t669 => ((nat_Mul.f k (l0.take ((ji5) : Int).toNat) (l1.take ((ji8) : Int).toNat)).bind fun t670 => ((quo_DivMod.f k t670 (l1.take ((ji8) : Int).toNat)).bind fun bt673 => ((nat_Trim.f k (l0.take ((ji5) : Int).toNat)).bind fun t680 => ((astrolabelaw03_digits.f k bt673.1 t680).bind fun t683 => (if t658 = true then (if t669 = true then ((nat_Cmp.f k t655 (l1.take ((ji8) : Int).toNat)).bind fun t684 => (if t684 < 0 then (if bt673.2.2 = true then (if t683 = true then (some ((bt673.2.1.length : Int) == 0)) else (none)) else (none)) else (none))) else (none)) else (none)))))))) = some r := H
      have A24 := Aside0.mk A240
      clear A240
      replace H := Option.bind_eq_some_iff.mp H
      obtain ⟨t666, A250, H⟩ := H
      replace H : ((astrolabelaw03_digits.f k t663 t666).bind fun t669 => ((nat_Mul.f k (l0.take ((ji5) : Int).toNat) (l1.take ((ji8) : Int).toNat)).bind fun t670 => ((quo_DivMod.f k t670 (l1.take ((ji8) : Int).toNat)).bind fun bt673 => ((nat_Trim.f k (l0.take ((ji5) : Int).toNat)).bind fun t680 => ((astrolabelaw03_digits.f k bt673.1 t680).bind fun t683 => (if t658 = true then (if t669 = true then ((nat_Cmp.f k t655 (l1.take ((ji8) : Int).toNat)).bind fun t684 => (if t684 < 0 then (if bt673.2.2 = true then (if t683 = true then (some ((bt673.2.1.length : Int) == 0)) else (none)) else (none)) else (none))) else (none)) else (none))))))) = some r := H
      have A25 := Aside0.mk A250
      clear A250
      replace H := Option.bind_eq_some_iff.mp H
      obtain ⟨t669, A260, H⟩ := H
      replace H : ((nat_Mul.f k (l0.take ((ji5) : Int).toNat) (l1.take ((ji8) : Int).toNat)).bind fun t670 => ((quo_DivMod.f k t670 (l1.take ((ji8) : Int).toNat)).bind fun bt673 => ((nat_Trim.f k (l0.take ((ji5) : Int).toNat)).bind fun t680 => ((astrolabelaw03_digits.f k bt673.1 t680).bind fun t683 => (if t658 = true then (if t669 = true then ((nat_Cmp.f k t655 (l1.take ((ji8) : Int).toNat)).bind fun t684 => (if t684 < 0 then (if bt673.2.2 = true then (if t683 = true then (some ((bt673.2.1.length : Int) == 0)) else (none)) else (none)) else (none))) else (none)) else (none)))))) = some r := H
      have A26 := Aside0.mk A260
      clear A260
      replace H := Option.bind_eq_some_iff.mp H
      obtain ⟨t670, A270, H⟩ := H
      replace H : ((quo_DivMod.f k t670 (l1.take ((ji8) : Int).toNat)).bind fun bt673 => ((nat_Trim.f k (l0.take ((ji5) : Int).toNat)).bind fun t680 => ((astrolabelaw03_digits.f k bt673.1 t680).bind fun t683 => (if t658 = true then (if t669 = true then ((nat_Cmp.f k t655 (l1.take ((ji8) : Int).toNat)).bind fun t684 => (if t684 < 0 then (if bt673.2.2 = true then (if t683 = true then (some ((bt673.2.1.length : Int) == 0)) else (none)) else (none)) else (none))) else (none)) else (none))))) = some r := H
      have A27 := Aside0.mk A270
      clear A270
      replace H := Option.bind_eq_some_iff.mp H
      obtain ⟨⟨t673, t676, t679⟩, A280, H⟩ := H
      replace H : ((nat_Trim.f k (l0.take ((ji5) : Int).toNat)).bind fun t680 => ((astrolabelaw03_digits.f k t673 t680).bind fun t683 => (if t658 = true then (if t669 = true then ((nat_Cmp.f k t655 (l1.take ((ji8) : Int).toNat)).bind fun t684 => (if t684 < 0 then (if t679 = true then (if t683 = true then (some ((t676.length : Int) == 0)) else (none)) else (none)) else (none))) else (none)) else (none)))) = some r := H
      have A28 := Aside0.mk A280
      clear A280
      replace H := Option.bind_eq_some_iff.mp H
      obtain ⟨t680, A290, H⟩ := H
      replace H : ((astrolabelaw03_digits.f k t673 t680).bind fun t683 => (if t658 = true then (if t669 = true then ((nat_Cmp.f k t655 (l1.take ((ji8) : Int).toNat)).bind fun t684 => (if t684 < 0 then (if t679 = true then (if t683 = true then (some ((t676.length : Int) == 0)) else (none)) else (none)) else (none))) else (none)) else (none))) = some r := H
      have A29 := Aside0.mk A290
      clear A290
      replace H := Option.bind_eq_some_iff.mp H
      obtain ⟨t683, A300, H⟩ := H
      replace H : (if t658 = true then (if t669 = true then ((nat_Cmp.f k t655 (l1.take ((ji8) : Int).toNat)).bind fun t684 => (if t684 < 0 then (if t679 = true then (if t683 = true then (some ((t676.length : Int) == 0)) else (none)) else (none)) else (none))) else (none)) else (none)) = some r := H
      have A30 := Aside0.mk A300
      clear A300
      by_cases c31 : t658 = true
      · subst c31
        have H1 : (if t669 = true then ((nat_Cmp.f k t655 (l1.take ((ji8) : Int).toNat)).bind fun t684 => (if t684 < 0 then (if t679 = true then (if t683 = true then (some ((t676.length : Int) == 0)) else (none)) else (none)) else (none))) else (none)) = some r := by rw [if_pos rfl] at H; exact H
        clear H
        have H := H1
        clear H1
        by_cases c32 : t669 = true
        · subst c32
          have H1 : ((nat_Cmp.f k t655 (l1.take ((ji8) : Int).toNat)).bind fun t684 => (if t684 < 0 then (if t679 = true then (if t683 = true then (some ((t676.length : Int) == 0)) else (none)) else (none)) else (none))) = some r := by rw [if_pos rfl] at H; exact H
          clear H
          have H := H1
          clear H1
          replace H := Option.bind_eq_some_iff.mp H
          obtain ⟨t684, A330, H⟩ := H
          replace H : (if t684 < 0 then (if t679 = true then (if t683 = true then (some ((t676.length : Int) == 0)) else (none)) else (none)) else (none)) = some r := H
          have A33 := Aside0.mk A330
          clear A330
          by_cases c34 : t684 < 0
          case neg => rw [if_neg c34] at H; exact absurd H (by simp)
          rw [if_pos c34] at H
          have c34b0 : decide (t684 < 0) = true := decide_eq_true c34
          clear c34
          by_cases c35 : t679 = true
          · subst c35
            have H1 : (if t683 = true then (some ((t676.length : Int) == 0)) else (none)) = some r := by rw [if_pos rfl] at H; exact H
            clear H
            have H := H1
            clear H1
            by_cases c36 : t683 = true
            · subst c36
              have H1 : (some ((t676.length : Int) == 0)) = some r := by rw [if_pos rfl] at H; exact H
              clear H
              have H := H1
              clear H1
              obtain rfl := Option.some.inj H
              go_enter Try.func5, Try.ntmps5
              go_wp2_with (first | ((with_reducible refine gate_callee (f := 11) rfl ?_); refine goesM_ (some 14) Try.func11 #[] rfl ?_; (with_reducible refine (astrolabelaw03_examples.calls k  true _ A3.out).mono ?_); rintro e w37 ⟨rfl, hb⟩; refine ⟨_, rfl, ?_⟩; have n0_ := Aside0.mk (below_step bl_ hb); clear HB; have HB := n0_; clear n0_; (try clear hb); (try clear hb2); (try clear hk); (try clear hi); obtain ⟨i038, hi038, _, hsz38, _⟩ := info_parts info37; obtain ⟨hcut38, hA38, hC38⟩ := print_take_of (P := Try.prog) (Value.int .u32) 0 22 37 .i64 Try.underlying22 hi038 hsz38 A0 c0 l0 (ji5) od_ od_ HC0.out; have HR650 := Aside0.mk (Kd.C_of_reads (h1 := fun _ => rfl) (hA38 _ (Kd.reads_of_C HR0.out))); have HC650 := Aside0.mk hC38; clear hA38 hC38 hi038 hsz38; obtain ⟨i039, hi039, _, hsz39, _⟩ := info_parts info37; obtain ⟨hcut39, hA39, hC39⟩ := print_take_of (P := Try.prog) (Value.int .u32) 0 22 37 .i64 Try.underlying22 hi039 hsz39 A1 c1 l1 (ji8) od_ od_ HC1.out; have HR651 := Aside0.mk (Kd.C_of_reads (h1 := fun _ => rfl) (hA39 _ (Kd.reads_of_C HR1.out))); have HC651 := Aside0.mk hC39; clear hA39 hC39 hi039 hsz39) | ((with_reducible refine gate_callee (f := 12) rfl ?_); refine goesM_ (some 30) Try.func12 #[.slice A0 (l0.take ((ji5) : Int).toNat).length c0, .slice A1 (l1.take ((ji8) : Int).toNat).length c1] rfl ?_ (by (try simp only [List.map_toArray, List.map_cons, List.map_nil]); first | done | (rw [show (l0.take ((ji5) : Int).toNat).length = (ji5).toNat from (by rw [List.length_take]; have h_ : ((ji5) : Int) ≤ (l0.length : Int) := (by first | exact od_ | (rw [← hji5]; unfold mn; split <;> omega)); omega)] <;> rfl) | (rw [show (l1.take ((ji8) : Int).toNat).length = (ji8).toNat from (by rw [List.length_take]; have h_ : ((ji8) : Int) ≤ (l1.length : Int) := (by first | exact od_ | (rw [← hji8]; unfold mn; split <;> omega)); omega)] <;> rfl) | (rw [show (l0.take ((ji5) : Int).toNat).length = (ji5).toNat from (by rw [List.length_take]; have h_ : ((ji5) : Int) ≤ (l0.length : Int) := (by first | exact od_ | (rw [← hji5]; unfold mn; split <;> omega)); omega), show (l1.take ((ji8) : Int).toNat).length = (ji8).toNat from (by rw [List.length_take]; have h_ : ((ji8) : Int) ≤ (l1.length : Int) := (by first | exact od_ | (rw [← hji8]; unfold mn; split <;> omega)); omega)] <;> rfl) | (simp only [hji5, hji8]; rfl) | rfl | (simp only [List.length_drop, List.length_take]; rfl)); (with_reducible refine (quo_DivMod.calls k _ _ (l0.take ((ji5) : Int).toNat) _ _ (l1.take ((ji8) : Int).toNat) t652 t655 true _ ?side1 ?side2 ?side3 ?side4 A11.out).mono ?_); (case side1 => repeat (first | exact (Kd.C_below HR650.out HB.out) | (with_reducible refine Kd.C_alloc ?_ _) | (with_reducible refine Kd.C_drewN ?_ _) | (with_reducible refine Kd.C_drew ?_))); (case side2 => exact HC650.out); (case side3 => repeat (first | exact (Kd.C_below HR651.out HB.out) | (with_reducible refine Kd.C_alloc ?_ _) | (with_reducible refine Kd.C_drewN ?_ _) | (with_reducible refine Kd.C_drew ?_))); (case side4 => exact HC651.out); rintro e w40 ⟨v653, v656, rfl, ho0, ho1, hb⟩; refine ⟨_, rfl, ?_⟩; have n0_ := Aside0.mk (Kd.R_lower (Kd.R_mono (ok' := fun k_ => True) ho0 (fun _ hk_ => trivial)) (below_size bl_)); have n1_ := Aside0.mk (Kd.V_lower (Kd.V_mono (ok' := fun k_ => some k_ ≠ (v653 : Value).ownBlock) ho1 (fun k_ hk_ => hk_.2)) (below_size bl_)); have n2_ := Aside0.mk (below_step bl_ hb); clear HB; have HO654 := n0_; have HO657 := n1_; have HB := n2_; clear n0_ n1_ n2_; (try clear hb); (try clear hb2); (try clear hk); (try clear hi); (try clear ho0); (try clear ho1)) | ((with_reducible refine gate_callee (f := 19) rfl ?_); refine goesM_ (some 35) Try.func19 #[.slice A1 (l1.take ((ji8) : Int).toNat).length c1] rfl ?_ (by (try simp only [List.map_toArray, List.map_cons, List.map_nil]); first | done | (rw [show (l1.take ((ji8) : Int).toNat).length = (ji8).toNat from (by rw [List.length_take]; have h_ : ((ji8) : Int) ≤ (l1.length : Int) := (by first | exact od_ | (rw [← hji8]; unfold mn; split <;> omega)); omega)] <;> rfl) | (simp only [hji8]; rfl) | rfl | (simp only [List.length_drop, List.length_take]; rfl)); (with_reducible refine (nat_Bits.calls k _ _ (l1.take ((ji8) : Int).toNat) t659 _ ?side1 ?side2 A12.out).mono ?_); (case side1 => repeat (first | exact (Kd.C_below HR651.out HB.out) | (with_reducible refine Kd.C_alloc ?_ _) | (with_reducible refine Kd.C_drewN ?_ _) | (with_reducible refine Kd.C_drew ?_))); (case side2 => exact HC651.out); rintro e w41 ⟨rfl, hb⟩; refine ⟨_, rfl, ?_⟩; have n0_ := Aside0.mk (Kd.R_below (mvR HO654.out) hb); have n1_ := Aside0.mk (Kd.V_below (mvV HO657.out) hb); have n2_ := Aside0.mk (below_step bl_ hb); clear HO654; clear HO657; clear HB; have HO654 := n0_; have HO657 := n1_; have HB := n2_; clear n0_ n1_ n2_; (try clear hb); (try clear hb2); (try clear hk); (try clear hi); obtain ⟨Ao42, co42, eo42⟩ := Kd.R_slice HO654.out; subst eo42) | ((with_reducible refine gate_callee (f := 21) rfl ?_); refine goesM_ (some 54) Try.func21 #[.slice Ao42 t652.length co42, .slice A1 (l1.take ((ji8) : Int).toNat).length c1] rfl ?_ (by (try simp only [List.map_toArray, List.map_cons, List.map_nil]); first | done | (rw [show (l1.take ((ji8) : Int).toNat).length = (ji8).toNat from (by rw [List.length_take]; have h_ : ((ji8) : Int) ≤ (l1.length : Int) := (by first | exact od_ | (rw [← hji8]; unfold mn; split <;> omega)); omega)] <;> rfl) | (simp only [hji8]; rfl) | rfl | (simp only [List.length_drop, List.length_take]; rfl)); (with_reducible refine (nat_Mul.calls k (fun k_ => some k_ = (.slice Ao42 t652.length co42 : Value).ownBlock) _ _ t652 (fun k_ => k_ < w.heap.size) _ _ (l1.take ((ji8) : Int).toNat) t660 _ ?side1 ?side2 A23.out).mono ?_); (case side1 => exact Kd.R_V (Kd.R_tight rfl (HO654.out))); (case side2 => exact Kd.V_mk HC651.out (Kd.F_below (Kd.C_F (Kd.heap_int .u32) HR651.out) bl_)); rintro e w43 ⟨v661, rfl, ho0, hb⟩; refine ⟨_, rfl, ?_⟩; have n0_ := Aside0.mk (Kd.R_below (mvR HO654.out) hb); have n1_ := Aside0.mk (Kd.V_below (mvV HO657.out) hb); have n2_ := Aside0.mk (Kd.V_lower (Kd.V_mono (ok' := fun k_ => True) ho0 (fun k_ hk_ => trivial)) (below_size bl_)); have n3_ := Aside0.mk (below_step bl_ hb); clear HO654; clear HO657; clear HB; have HO654 := n0_; have HO657 := n1_; have HO662 := n2_; have HB := n3_; clear n0_ n1_ n2_ n3_; (try clear hb); (try clear hb2); (try clear hk); (try clear hi); (try clear ho0); obtain ⟨Ao44, co44, eo44⟩ := Kd.V_slice HO662.out; subst eo44; obtain ⟨Ao45, co45, eo45⟩ := Kd.V_slice HO657.out; subst eo45) | ((with_reducible refine gate_callee (f := 20) rfl ?_); refine goesM_ (some 56) Try.func20 #[.slice Ao44 t660.length co44, .slice Ao45 t655.length co45] rfl ?_; (with_reducible refine (nat_Add.calls k (fun k_ => True) _ _ t660 (fun k_ => some k_ ≠ (.slice Ao42 t652.length co42 : Value).ownBlock) _ _ t655 t663 _ ?side1 ?side2 A24.out).mono ?_); (case side1 => exact HO662.out); (case side2 => exact HO657.out); rintro e w46 ⟨v664, rfl, ho0, hb⟩; refine ⟨_, rfl, ?_⟩; have n0_ := Aside0.mk (Kd.R_below (mvR HO654.out) hb); have n1_ := Aside0.mk (Kd.V_below (mvV HO657.out) hb); have n2_ := Aside0.mk (Kd.V_below (mvV HO662.out) hb); have n3_ := Aside0.mk (Kd.V_lower (Kd.V_mono (ok' := fun k_ => True) ho0 (fun k_ hk_ => trivial)) (below_size bl_)); have n4_ := Aside0.mk (below_step bl_ hb); clear HO654; clear HO657; clear HO662; clear HB; have HO654 := n0_; have HO657 := n1_; have HO662 := n2_; have HO665 := n3_; have HB := n4_; clear n0_ n1_ n2_ n3_ n4_; (try clear hb); (try clear hb2); (try clear hk); (try clear hi); (try clear ho0)) | ((with_reducible refine gate_callee (f := 22) rfl ?_); refine goesM_ (some 58) Try.func22 #[.slice A0 (l0.take ((ji5) : Int).toNat).length c0] rfl ?_ (by (try simp only [List.map_toArray, List.map_cons, List.map_nil]); first | done | (rw [show (l0.take ((ji5) : Int).toNat).length = (ji5).toNat from (by rw [List.length_take]; have h_ : ((ji5) : Int) ≤ (l0.length : Int) := (by first | exact od_ | (rw [← hji5]; unfold mn; split <;> omega)); omega)] <;> rfl) | (simp only [hji5]; rfl) | rfl | (simp only [List.length_drop, List.length_take]; rfl)); (with_reducible refine (nat_Trim.calls k _ _ (l0.take ((ji5) : Int).toNat) t666 _ ?side1 ?side2 A25.out).mono ?_); (case side1 => repeat (first | exact (Kd.C_below HR650.out HB.out) | (with_reducible refine Kd.C_alloc ?_ _) | (with_reducible refine Kd.C_drewN ?_ _) | (with_reducible refine Kd.C_drew ?_))); (case side2 => exact HC650.out); rintro e w47 ⟨v667, rfl, ho0, hb⟩; refine ⟨_, rfl, ?_⟩; have n0_ := Aside0.mk (Kd.R_elder' (mvR HO654.out) (Kd.R_base ho0) hb); have n1_ := Aside0.mk (Kd.V_elder' (mvV HO657.out) (Kd.R_base ho0) hb); have n2_ := Aside0.mk (Kd.V_elder' (mvV HO662.out) (Kd.R_base ho0) hb); have n3_ := Aside0.mk (Kd.V_elder' (mvV HO665.out) (Kd.R_base ho0) hb); have n4_ := Aside0.mk (Kd.R_lower (Kd.R_new' ho0 (Kd.R_lt (mvR HO654.out))) (below_size bl_)); have n5_ := Aside0.mk (below_step bl_ hb); clear HO654; clear HO657; clear HO662; clear HO665; clear HB; have HO654 := n0_; have HO657 := n1_; have HO662 := n2_; have HO665 := n3_; have HO668 := n4_; have HB := n5_; clear n0_ n1_ n2_ n3_ n4_ n5_; (try clear hb); (try clear hb2); (try clear hk); (try clear hi); (try clear ho0); obtain ⟨Ao48, co48, eo48⟩ := Kd.V_slice HO665.out; subst eo48; obtain ⟨Ao49, co49, eo49⟩ := Kd.R_slice HO668.out; subst eo49) | ((with_reducible refine gate_callee (f := 14) rfl ?_); refine goesM_ (some 59) Try.func14 #[.slice Ao48 t663.length co48, .slice Ao49 t666.length co49] rfl ?_; (with_reducible refine (astrolabelaw03_digits.calls k _ _ t663 _ _ t666 true _ ?side1 ?side2 ?side3 ?side4 A26.out).mono ?_); (case side1 => repeat (first | exact (Kd.V_reads' HO665.out).2.2 | (with_reducible refine Kd.C_alloc ?_ _) | (with_reducible refine Kd.C_drewN ?_ _) | (with_reducible refine Kd.C_drew ?_))); (case side2 => exact (Kd.V_reads' HO665.out).2.1); (case side3 => repeat (first | exact (Kd.R_reads' HO668.out).2.2 | (with_reducible refine Kd.C_alloc ?_ _) | (with_reducible refine Kd.C_drewN ?_ _) | (with_reducible refine Kd.C_drew ?_))); (case side4 => exact (Kd.R_reads' HO668.out).2.1); rintro e w' ⟨rfl, ⟨nd, rfl⟩⟩; refine ⟨_, rfl, ?_⟩) | ((with_reducible refine gate_callee (f := 21) rfl ?_); refine goesM_ (some 63) Try.func21 #[.slice A0 (l0.take ((ji5) : Int).toNat).length c0, .slice A1 (l1.take ((ji8) : Int).toNat).length c1] rfl ?_ (by (try simp only [List.map_toArray, List.map_cons, List.map_nil]); first | done | (rw [show (l0.take ((ji5) : Int).toNat).length = (ji5).toNat from (by rw [List.length_take]; have h_ : ((ji5) : Int) ≤ (l0.length : Int) := (by first | exact od_ | (rw [← hji5]; unfold mn; split <;> omega)); omega)] <;> rfl) | (rw [show (l1.take ((ji8) : Int).toNat).length = (ji8).toNat from (by rw [List.length_take]; have h_ : ((ji8) : Int) ≤ (l1.length : Int) := (by first | exact od_ | (rw [← hji8]; unfold mn; split <;> omega)); omega)] <;> rfl) | (rw [show (l0.take ((ji5) : Int).toNat).length = (ji5).toNat from (by rw [List.length_take]; have h_ : ((ji5) : Int) ≤ (l0.length : Int) := (by first | exact od_ | (rw [← hji5]; unfold mn; split <;> omega)); omega), show (l1.take ((ji8) : Int).toNat).length = (ji8).toNat from (by rw [List.length_take]; have h_ : ((ji8) : Int) ≤ (l1.length : Int) := (by first | exact od_ | (rw [← hji8]; unfold mn; split <;> omega)); omega)] <;> rfl) | (simp only [hji5, hji8]; rfl) | rfl | (simp only [List.length_drop, List.length_take]; rfl)); (with_reducible refine (nat_Mul.calls k (fun k_ => k_ < w.heap.size) _ _ (l0.take ((ji5) : Int).toNat) (fun k_ => k_ < w.heap.size) _ _ (l1.take ((ji8) : Int).toNat) t670 _ ?side1 ?side2 A27.out).mono ?_); (case side1 => exact Kd.V_mk HC650.out (Kd.F_below (Kd.C_F (Kd.heap_int .u32) HR650.out) bl_)); (case side2 => exact Kd.V_mk HC651.out (Kd.F_below (Kd.C_F (Kd.heap_int .u32) HR651.out) bl_)); rintro e w50 ⟨v671, rfl, ho0, hb⟩; refine ⟨_, rfl, ?_⟩; have n0_ := Aside0.mk (Kd.R_below (mvR HO654.out) hb); have n1_ := Aside0.mk (Kd.V_below (mvV HO657.out) hb); have n2_ := Aside0.mk (Kd.V_below (mvV HO662.out) hb); have n3_ := Aside0.mk (Kd.V_below (mvV HO665.out) hb); have n4_ := Aside0.mk (Kd.R_below (mvR HO668.out) hb); have n5_ := Aside0.mk (Kd.V_lower (Kd.V_mono (ok' := fun k_ => some k_ ≠ (.slice Ao42 t652.length co42 : Value).ownBlock ∧ some k_ ≠ (.slice Ao49 t666.length co49 : Value).ownBlock) ho0 (fun k_ hk_ => ⟨Or.elim hk_ (fun hs_ => Or.elim hs_ (fun hs_ => fun e_ => Nat.not_le.2 hs_ (Kd.R_base HO654.out k_ e_.symm)) (fun hs_ => fun e_ => Nat.not_le.2 hs_ (Kd.R_base HO654.out k_ e_.symm))) (fun hn_ => (Kd.fresh' (Kd.R_lt (mvR HO654.out)) k_ hn_)), Or.elim hk_ (fun hs_ => Or.elim hs_ (fun hs_ => fun e_ => Nat.not_le.2 hs_ (Kd.R_base HO668.out k_ e_.symm)) (fun hs_ => fun e_ => Nat.not_le.2 hs_ (Kd.R_base HO668.out k_ e_.symm))) (fun hn_ => (Kd.fresh' (Kd.R_lt (mvR HO668.out)) k_ hn_))⟩)) (below_size bl_)); have n6_ := Aside0.mk (below_step bl_ hb); clear HO654; clear HO657; clear HO662; clear HO665; clear HO668; clear HB; have HO654 := n0_; have HO657 := n1_; have HO662 := n2_; have HO665 := n3_; have HO668 := n4_; have HO672 := n5_; have HB := n6_; clear n0_ n1_ n2_ n3_ n4_ n5_ n6_; (try clear hb); (try clear hb2); (try clear hk); (try clear hi); (try clear ho0); obtain ⟨Ao51, co51, eo51⟩ := Kd.V_slice HO672.out; subst eo51) | ((with_reducible refine gate_callee (f := 12) rfl ?_); refine goesM_ (some 65) Try.func12 #[.slice Ao51 t670.length co51, .slice A1 (l1.take ((ji8) : Int).toNat).length c1] rfl ?_ (by (try simp only [List.map_toArray, List.map_cons, List.map_nil]); first | done | (rw [show (l1.take ((ji8) : Int).toNat).length = (ji8).toNat from (by rw [List.length_take]; have h_ : ((ji8) : Int) ≤ (l1.length : Int) := (by first | exact od_ | (rw [← hji8]; unfold mn; split <;> omega)); omega)] <;> rfl) | (simp only [hji8]; rfl) | rfl | (simp only [List.length_drop, List.length_take]; rfl)); (with_reducible refine (quo_DivMod.calls k _ _ t670 _ _ (l1.take ((ji8) : Int).toNat) t673 t676 true _ ?side1 ?side2 ?side3 ?side4 A28.out).mono ?_); (case side1 => repeat (first | exact (Kd.V_reads' HO672.out).2.2 | (with_reducible refine Kd.C_alloc ?_ _) | (with_reducible refine Kd.C_drewN ?_ _) | (with_reducible refine Kd.C_drew ?_))); (case side2 => exact (Kd.V_reads' HO672.out).2.1); (case side3 => repeat (first | exact (Kd.C_below HR651.out HB.out) | (with_reducible refine Kd.C_alloc ?_ _) | (with_reducible refine Kd.C_drewN ?_ _) | (with_reducible refine Kd.C_drew ?_))); (case side4 => exact HC651.out); rintro e w52 ⟨v674, v677, rfl, ho0, ho1, hb⟩; refine ⟨_, rfl, ?_⟩; have n0_ := Aside0.mk (Kd.R_elder' (mvR HO654.out) (Kd.R_base ho0) hb); have n1_ := Aside0.mk (Kd.V_elder' (mvV HO657.out) (Kd.R_base ho0) hb); have n2_ := Aside0.mk (Kd.V_elder' (mvV HO662.out) (Kd.R_base ho0) hb); have n3_ := Aside0.mk (Kd.V_elder' (mvV HO665.out) (Kd.R_base ho0) hb); have n4_ := Aside0.mk (Kd.R_elder' (mvR HO668.out) (Kd.R_base ho0) hb); have n5_ := Aside0.mk (Kd.V_elder' (mvV HO672.out) (Kd.R_base ho0) hb); have n6_ := Aside0.mk (Kd.R_lower (Kd.R_new' (Kd.R_new' (Kd.R_mono (ok' := fun k_ => True) ho0 (fun _ hk_ => trivial)) (Kd.R_lt (mvR HO654.out))) (Kd.R_lt (mvR HO668.out))) (below_size bl_)); have n7_ := Aside0.mk (Kd.V_lower (Kd.V_mono (ok' := fun k_ => some k_ ≠ (v674 : Value).ownBlock ∧ some k_ ≠ (.slice Ao42 t652.length co42 : Value).ownBlock ∧ some k_ ≠ (.slice Ao49 t666.length co49 : Value).ownBlock) ho1 (fun k_ hk_ => ⟨hk_.2, (Kd.fresh' (Kd.R_lt (mvR HO654.out)) k_ hk_.1), (Kd.fresh' (Kd.R_lt (mvR HO668.out)) k_ hk_.1)⟩)) (below_size bl_)); have n8_ := Aside0.mk (below_step bl_ hb); clear HO654; clear HO657; clear HO662; clear HO665; clear HO668; clear HO672; clear HB; have HO654 := n0_; have HO657 := n1_; have HO662 := n2_; have HO665 := n3_; have HO668 := n4_; have HO672 := n5_; have HO675 := n6_; have HO678 := n7_; have HB := n8_; clear n0_ n1_ n2_ n3_ n4_ n5_ n6_ n7_ n8_; (try clear hb); (try clear hb2); (try clear hk); (try clear hi); (try clear ho0); (try clear ho1)) | ((with_reducible refine gate_callee (f := 22) rfl ?_); refine goesM_ (some 71) Try.func22 #[.slice A0 (l0.take ((ji5) : Int).toNat).length c0] rfl ?_ (by (try simp only [List.map_toArray, List.map_cons, List.map_nil]); first | done | (rw [show (l0.take ((ji5) : Int).toNat).length = (ji5).toNat from (by rw [List.length_take]; have h_ : ((ji5) : Int) ≤ (l0.length : Int) := (by first | exact od_ | (rw [← hji5]; unfold mn; split <;> omega)); omega)] <;> rfl) | (simp only [hji5]; rfl) | rfl | (simp only [List.length_drop, List.length_take]; rfl)); (with_reducible refine (nat_Trim.calls k _ _ (l0.take ((ji5) : Int).toNat) t680 _ ?side1 ?side2 A29.out).mono ?_); (case side1 => repeat (first | exact (Kd.C_below HR650.out HB.out) | (with_reducible refine Kd.C_alloc ?_ _) | (with_reducible refine Kd.C_drewN ?_ _) | (with_reducible refine Kd.C_drew ?_))); (case side2 => exact HC650.out); rintro e w53 ⟨v681, rfl, ho0, hb⟩; refine ⟨_, rfl, ?_⟩; have n0_ := Aside0.mk (Kd.R_elder' (mvR HO654.out) (Kd.R_base ho0) hb); have n1_ := Aside0.mk (Kd.V_elder' (mvV HO657.out) (Kd.R_base ho0) hb); have n2_ := Aside0.mk (Kd.V_elder' (mvV HO662.out) (Kd.R_base ho0) hb); have n3_ := Aside0.mk (Kd.V_elder' (mvV HO665.out) (Kd.R_base ho0) hb); have n4_ := Aside0.mk (Kd.R_elder' (mvR HO668.out) (Kd.R_base ho0) hb); have n5_ := Aside0.mk (Kd.V_elder' (mvV HO672.out) (Kd.R_base ho0) hb); have n6_ := Aside0.mk (Kd.R_elder' (mvR HO675.out) (Kd.R_base ho0) hb); have n7_ := Aside0.mk (Kd.V_elder' (mvV HO678.out) (Kd.R_base ho0) hb); have n8_ := Aside0.mk (Kd.R_lower (Kd.R_new' (Kd.R_new' (Kd.R_new' ho0 (Kd.R_lt (mvR HO654.out))) (Kd.R_lt (mvR HO668.out))) (Kd.R_lt (mvR HO675.out))) (below_size bl_)); have n9_ := Aside0.mk (below_step bl_ hb); clear HO654; clear HO657; clear HO662; clear HO665; clear HO668; clear HO672; clear HO675; clear HO678; clear HB; have HO654 := n0_; have HO657 := n1_; have HO662 := n2_; have HO665 := n3_; have HO668 := n4_; have HO672 := n5_; have HO675 := n6_; have HO678 := n7_; have HO682 := n8_; have HB := n9_; clear n0_ n1_ n2_ n3_ n4_ n5_ n6_ n7_ n8_ n9_; (try clear hb); (try clear hb2); (try clear hk); (try clear hi); (try clear ho0); obtain ⟨Ao54, co54, eo54⟩ := Kd.R_slice HO675.out; subst eo54; obtain ⟨Ao55, co55, eo55⟩ := Kd.R_slice HO682.out; subst eo55) | ((with_reducible refine gate_callee (f := 14) rfl ?_); refine goesM_ (some 72) Try.func14 #[.slice Ao54 t673.length co54, .slice Ao55 t680.length co55] rfl ?_; (with_reducible refine (astrolabelaw03_digits.calls k _ _ t673 _ _ t680 true _ ?side1 ?side2 ?side3 ?side4 A30.out).mono ?_); (case side1 => repeat (first | exact (Kd.R_reads' HO675.out).2.2 | (with_reducible refine Kd.C_alloc ?_ _) | (with_reducible refine Kd.C_drewN ?_ _) | (with_reducible refine Kd.C_drew ?_))); (case side2 => exact (Kd.R_reads' HO675.out).2.1); (case side3 => repeat (first | exact (Kd.R_reads' HO682.out).2.2 | (with_reducible refine Kd.C_alloc ?_ _) | (with_reducible refine Kd.C_drewN ?_ _) | (with_reducible refine Kd.C_drew ?_))); (case side4 => exact (Kd.R_reads' HO682.out).2.1); rintro e w' ⟨rfl, ⟨nd, rfl⟩⟩; refine ⟨_, rfl, ?_⟩) | (go_at_call 23; refine calls_of_args (args' := #[.slice Ao45 t655.length co45, .slice A1 (l1.take ((ji8) : Int).toNat).length c1]) (by first | (rw [show (l1.take ((ji8) : Int).toNat).length = (ji8).toNat from (by rw [List.length_take]; have h_ : ((ji8) : Int) ≤ (l1.length : Int) := (by first | exact od_ | (rw [← hji8]; unfold mn; split <;> omega)); omega)] <;> rfl) | rfl) ?_; (with_reducible refine (nat_Cmp.calls k _ _ t655 _ _ (l1.take ((ji8) : Int).toNat) t684 _ ?side1 ?side2 ?side3 ?side4 A33.out).mono ?_); (case side1 => repeat (first | exact (Kd.V_reads' HO657.out).2.2 | (with_reducible refine Kd.C_alloc ?_ _) | (with_reducible refine Kd.C_drewN ?_ _) | (with_reducible refine Kd.C_drew ?_))); (case side2 => exact (Kd.V_reads' HO657.out).2.1); (case side3 => repeat (first | exact (Kd.C_below HR651.out bl_) | (with_reducible refine Kd.C_alloc ?_ _) | (with_reducible refine Kd.C_drewN ?_ _) | (with_reducible refine Kd.C_drew ?_))); (case side4 => exact HC651.out); rintro e w56 ⟨rfl, hb⟩; have n0_ := Aside0.mk (Kd.R_below (mvR HO654.out) hb); have n1_ := Aside0.mk (Kd.V_below (mvV HO657.out) hb); have n2_ := Aside0.mk (Kd.V_below (mvV HO662.out) hb); have n3_ := Aside0.mk (Kd.V_below (mvV HO665.out) hb); have n4_ := Aside0.mk (Kd.R_below (mvR HO668.out) hb); have n5_ := Aside0.mk (Kd.V_below (mvV HO672.out) hb); have n6_ := Aside0.mk (Kd.R_below (mvR HO675.out) hb); have n7_ := Aside0.mk (Kd.V_below (mvV HO678.out) hb); have n8_ := Aside0.mk (Kd.R_below (mvR HO682.out) hb); have n9_ := Aside0.mk (below_step bl_ hb); clear HO654; clear HO657; clear HO662; clear HO665; clear HO668; clear HO672; clear HO675; clear HO678; clear HO682; clear HB; have HO654 := n0_; have HO657 := n1_; have HO662 := n2_; have HO665 := n3_; have HO668 := n4_; have HO672 := n5_; have HO675 := n6_; have HO678 := n7_; have HO682 := n8_; have HB := n9_; clear n0_ n1_ n2_ n3_ n4_ n5_ n6_ n7_ n8_ n9_; (try clear hb); (try clear hb2); (try clear hk); (try clear hi); obtain ⟨Ao57, co57, eo57⟩ := Kd.V_slice HO678.out; subst eo57))
              go_ret
              exact ⟨by first | rfl | (simp [errW_none, errW_some] <;> rfl) | (simp only [← hji5, ← hji8]; first | rfl | (simp [errW_none, errW_some] <;> rfl)) | (simp [*, errW_none, errW_some] <;> rfl), bl_⟩
            · replace c36 := Bool.eq_false_iff.mpr c36
              subst c36
              have H1 : (none) = some r := by rw [if_neg (show ¬ (false = true) by decide)] at H; exact H
              clear H
              have H := H1
              clear H1
              exact absurd H (by simp)
          · replace c35 := Bool.eq_false_iff.mpr c35
            subst c35
            have H1 : (none) = some r := by rw [if_neg (show ¬ (false = true) by decide)] at H; exact H
            clear H
            have H := H1
            clear H1
            exact absurd H (by simp)
        · replace c32 := Bool.eq_false_iff.mpr c32
          subst c32
          have H1 : (none) = some r := by rw [if_neg (show ¬ (false = true) by decide)] at H; exact H
          clear H
          have H := H1
          clear H1
          exact absurd H (by simp)
      · replace c31 := Bool.eq_false_iff.mpr c31
        subst c31
        have H1 : (none) = some r := by rw [if_neg (show ¬ (false = true) by decide)] at H; exact H
        clear H
        have H := H1
        clear H1
        exact absurd H (by simp)
  · replace c4 := Bool.eq_false_iff.mpr c4
    subst c4
    have H1 : (none) = some r := by rw [if_neg (show ¬ (false = true) by decide)] at H; exact H
    clear H
    have H := H1
    clear H1
    exact absurd H (by simp)

/-- THE ONE PURE STATEMENT of astrolabelaw03_QuoBack: yours. -/
def astrolabelaw03_QuoBack.Pure : Prop := ∀ (l0 : List Int) (l1 : List Int), l0.length ≤ maxLen → l0.length * 4 ≤ 140737488351232 → (∀ x ∈ l0, (Lit.int .u32 x).wf = true) → l1.length ≤ maxLen → l1.length * 4 ≤ 140737488351232 → (∀ x ∈ l1, (Lit.int .u32 x).wf = true) → ∃ k, astrolabelaw03_QuoBack.f k l0 l1 = some true
theorem astrolabelaw03_QuoBack.walk (P : astrolabelaw03_QuoBack.Pure) (a0 : Option Addr) (len0 cap0 : Nat) (z0 : List Int) (a1 : Option Addr) (len1 cap1 : Nat) (z1 : List Int) (w : World) (w0 : (a0 = none ∧ len0 = 0 ∧ cap0 = 0 ∧ z0 = []) ∨ ∃ x, a0 = some x ∧ len0 ≤ cap0 ∧ cap0 ≤ maxLen ∧ z0.length = cap0 ∧ (∀ i, i < z0.length → w.cell? (x.add i) = some (.int .u32 (z0.getD i 0))) ∧ ∀ n ∈ z0, (Lit.int .u32 n).wf = true) (y0 : len0 * 4 ≤ 140737488351232) (w1 : (a1 = none ∧ len1 = 0 ∧ cap1 = 0 ∧ z1 = []) ∨ ∃ x, a1 = some x ∧ len1 ≤ cap1 ∧ cap1 ≤ maxLen ∧ z1.length = cap1 ∧ (∀ i, i < z1.length → w.cell? (x.add i) = some (.int .u32 (z1.getD i 0))) ∧ ∀ n ∈ z1, (Lit.int .u32 n).wf = true) (y1 : len1 * 4 ≤ 140737488351232) :
    Calls Try.prog 5 #[.slice a0 len0 cap0, .slice a1 len1 cap1] w fun e w' => e = .returned (.bool true) ∧ Below w.heap.size w w' := by
  obtain ⟨l0, rfl, hr0, hm0, hw0, hc0⟩ := ReadsInt.ofRowC w0
  obtain ⟨l1, rfl, hr1, hm1, hw1, hc1⟩ := ReadsInt.ofRowC w1
  obtain ⟨k, h⟩ := P l0 l1 hm0 y0 hw0 hm1 y1 hw1
  refine (astrolabelaw03_QuoBack.calls k _ _ l0 _ _ l1 true w (Kd.C_of_reads (d := (0 : Int)) (h1 := fun _ => rfl) hr0) hc0 (Kd.C_of_reads (d := (0 : Int)) (h1 := fun _ => rfl) hr1) hc1 h).mono ?_
  rintro e w' ⟨rfl, hd⟩
  exact ⟨rfl, hd⟩

end Go.Proofs.Ytohkjfdcmiiehaa.P
