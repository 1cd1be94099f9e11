/- What the Go functions of these names come to, as plain Lean functions, and the walks that show it. Written for this claim by a turned copy of the print program; Lean checks it. -/
import Derived.Test.YtohkjfdcmiiehaaP0
import Derived.Test.YtohkjfdcmiiehaaP3
import Derived.Test.YtohkjfdcmiiehaaP4
import Derived.Test.YtohkjfdcmiiehaaP11
import Derived.Test.YtohkjfdcmiiehaaP15
namespace Go.Proofs.Ytohkjfdcmiiehaa.P
open Go.RowKit Go.Proofs.YtohkjfdcmiiehaaW.PrintWords Go.Proofs.YtohkjfdcmiiehaaW.PrintLast Go.Proofs.YtohkjfdcmiiehaaW.PrintMore
attribute [local go_sem] max2_int min2_int max_two min_two max_three min_three max_four min_four   -- for this text's walks alone
set_option linter.unusedVariables false
set_option linter.unusedSimpArgs false

/-! ### astrolabelaw03_QuoGcds: function 7 -/
def astrolabelaw03_QuoGcds.j0 : Nat → List Int → List Int → List Int → Bool → List Int → Bool → Bool → Option (Bool)
  | 0, _, _, _, _, _, _, _ => none
  | k + 1, x0, x1, x2, x7, x8, x9, x50 => if x50 = true then (if x7 = true then (if x9 = true then (some ((x8.length : Int) == 0)) else (none)) else (none)) else ((quo_DivMod.f k x0 x8).bind fun bt733 => ((quo_DivMod.f k x1 x8).bind fun bt740 => ((nat_Mul.f k x0 x2).bind fun t747 => ((nat_Mul.f k x1 x2).bind fun t750 => ((quo_Gcd.f k t747 t750).bind fun t753 => ((nat_Mul.f k x8 x2).bind fun t756 => ((astrolabelaw03_digits.f k t753 t756).bind fun t759 => (if x7 = true then (if x9 = true then (if bt733.2.2 = true then (if bt740.2.2 = true then (if (bt733.2.1.length : Int) = 0 then (if (bt740.2.1.length : Int) = 0 then (some t759) else (none)) else (none)) else (none)) else (none)) else (none)) else (none)))))))))
def astrolabelaw03_QuoGcds.f (k : Nat) (l0 : List Int) (l1 : List Int) (l2 : List Int) : Option (Bool) := (astrolabelaw03_examples.f k).bind fun t720 => (if t720 = true then (if 0 ≤ (mn (l0.length : Int) 6) then (if (mn (l0.length : Int) 6) ≤ (l0.length : Int) then (if 0 ≤ (mn (l1.length : Int) 6) then (if (mn (l1.length : Int) 6) ≤ (l1.length : Int) then (if 0 ≤ (mn (l2.length : Int) 6) then (if (mn (l2.length : Int) 6) ≤ (l2.length : Int) then ((quo_Gcd.f k (l0.take ((mn (l0.length : Int) 6) : Int).toNat) (l1.take ((mn (l1.length : Int) 6) : Int).toNat)).bind fun t724 => ((quo_Gcd.f k (l1.take ((mn (l1.length : Int) 6) : Int).toNat) (l0.take ((mn (l0.length : Int) 6) : Int).toNat)).bind fun t727 => ((astrolabelaw03_digits.f k t724 t727).bind fun t730 => ((nat_Bits.f k (l0.take ((mn (l0.length : Int) 6) : Int).toNat)).bind fun t731 => (if t731 = 0 then ((nat_Bits.f k (l1.take ((mn (l1.length : Int) 6) : Int).toNat)).bind fun t732 => (astrolabelaw03_QuoGcds.j0 k (l0.take ((mn (l0.length : Int) 6) : Int).toNat) (l1.take ((mn (l1.length : Int) 6) : Int).toNat) (l2.take ((mn (l2.length : Int) 6) : Int).toNat) t720 t724 t730 (t732 == 0))) else (astrolabelaw03_QuoGcds.j0 k (l0.take ((mn (l0.length : Int) 6) : Int).toNat) (l1.take ((mn (l1.length : Int) 6) : Int).toNat) (l2.take ((mn (l2.length : Int) 6) : Int).toNat) t720 t724 t730 false)))))) else (none)) else (none)) else (none)) else (none)) else (none)) else (none)) else (none))
theorem astrolabelaw03_QuoGcds.mono_l : ∀ k, (∀ y0 y1 y2 y3 y4 y5 y6, LeO (astrolabelaw03_QuoGcds.j0 k y0 y1 y2 y3 y4 y5 y6) (astrolabelaw03_QuoGcds.j0 (k + 1) y0 y1 y2 y3 y4 y5 y6))
  | 0 => fun _ _ _ _ _ _ _ r h => by simp [astrolabelaw03_QuoGcds.j0] at h
  | k + 1 => by
    have ih0 := astrolabelaw03_QuoGcds.mono_l k
    · intro y0 y1 y2 y3 y4 y5 y6
      unfold astrolabelaw03_QuoGcds.j0
      repeat' first
      | (with_reducible exact ih0 _ _ _ _ _ _ _)
      | (with_reducible exact astrolabelaw03_digits.mono _ _ _)
      | (with_reducible exact astrolabelaw03_examples.mono _)
      | (with_reducible exact nat_Bits.mono _ _)
      | (with_reducible exact nat_Mul.mono _ _ _)
      | (with_reducible exact quo_DivMod.mono _ _ _)
      | (with_reducible exact quo_Gcd.mono _ _ _)
      | (with_reducible exact LeO.refl _)
      | (with_reducible exact LeO.none _)
      | (with_reducible refine LeO.ite ?_ ?_)
      | (with_reducible refine LeO.bind ?_ (fun _ => ?_))
      | exact ih0 _ _ _ _ _ _ _
      | exact astrolabelaw03_digits.mono _ _ _
      | exact astrolabelaw03_examples.mono _
      | exact nat_Bits.mono _ _
      | exact nat_Mul.mono _ _ _
      | exact quo_DivMod.mono _ _ _
      | exact quo_Gcd.mono _ _ _
      | exact LeO.none _
      | refine LeO.ite ?_ ?_
      | refine LeO.bind ?_ (fun _ => ?_)
theorem astrolabelaw03_QuoGcds.mono : ∀ a0 a1 a2 k, LeO (astrolabelaw03_QuoGcds.f k a0 a1 a2) (astrolabelaw03_QuoGcds.f (k + 1) a0 a1 a2) := by
  intro a0 a1 a2 k
  have ih0 := astrolabelaw03_QuoGcds.mono_l k
  unfold astrolabelaw03_QuoGcds.f
  repeat' first
      | (with_reducible exact ih0 _ _ _ _ _ _ _)
      | (with_reducible exact astrolabelaw03_digits.mono _ _ _)
      | (with_reducible exact astrolabelaw03_examples.mono _)
      | (with_reducible exact nat_Bits.mono _ _)
      | (with_reducible exact nat_Mul.mono _ _ _)
      | (with_reducible exact quo_DivMod.mono _ _ _)
      | (with_reducible exact quo_Gcd.mono _ _ _)
      | (with_reducible exact LeO.refl _)
      | (with_reducible exact LeO.none _)
      | (with_reducible refine LeO.ite ?_ ?_)
      | (with_reducible refine LeO.bind ?_ (fun _ => ?_))
      | exact ih0 _ _ _ _ _ _ _
      | exact astrolabelaw03_digits.mono _ _ _
      | exact astrolabelaw03_examples.mono _
      | exact nat_Bits.mono _ _
      | exact nat_Mul.mono _ _ _
      | exact quo_DivMod.mono _ _ _
      | exact quo_Gcd.mono _ _ _
      | exact LeO.none _
      | refine LeO.ite ?_ ?_
      | refine LeO.bind ?_ (fun _ => ?_)
set_option maxHeartbeats 8000000 in
set_option maxRecDepth 100000 in
theorem astrolabelaw03_QuoGcds.calls (k : Nat) (A0 : Option Addr) (c0 : Nat) (l0 : List Int) (A1 : Option Addr) (c1 : Nat) (l1 : List Int) (A2 : Option Addr) (c2 : Nat) (l2 : List Int) (r : Bool) (w : World) (hr0 : Kd.C (Kd.int .u32) w A0 l0.length l0) (hc0 : l0.length ≤ c0) (hr1 : Kd.C (Kd.int .u32) w A1 l1.length l1) (hc1 : l1.length ≤ c1) (hr2 : Kd.C (Kd.int .u32) w A2 l2.length l2) (hc2 : l2.length ≤ c2) (h : astrolabelaw03_QuoGcds.f k l0 l1 l2 = some r) :
    Calls Try.prog 7 #[.slice A0 l0.length c0, .slice A1 l1.length c1, .slice A2 l2.length c2] w fun e w' => e = .returned (.bool r) ∧ Below w.heap.size w w' := by
  have HR0 := Aside0.mk hr0
  have HC0 := Aside0.mk hc0
  clear hr0 hc0
  have HR1 := Aside0.mk hr1
  have HC1 := Aside0.mk hc1
  clear hr1 hc1
  have HR2 := Aside0.mk hr2
  have HC2 := Aside0.mk hc2
  clear hr2 hc2
  have HB := Aside0.mk (Below.refl w.heap.size w)
  have H : ((astrolabelaw03_examples.f k).bind fun t720 => (if t720 = true then (if 0 ≤ (mn (l0.length : Int) 6) then (if (mn (l0.length : Int) 6) ≤ (l0.length : Int) then (if 0 ≤ (mn (l1.length : Int) 6) then (if (mn (l1.length : Int) 6) ≤ (l1.length : Int) then (if 0 ≤ (mn (l2.length : Int) 6) then (if (mn (l2.length : Int) 6) ≤ (l2.length : Int) then ((quo_Gcd.f k (l0.take ((mn (l0.length : Int) 6) : Int).toNat) (l1.take ((mn (l1.length : Int) 6) : Int).toNat)).bind fun t724 => ((quo_Gcd.f k (l1.take ((mn (l1.length : Int) 6) : Int).toNat) (l0.take ((mn (l0.length : Int) 6) : Int).toNat)).bind fun t727 => ((astrolabelaw03_digits.f k t724 t727).bind fun t730 => ((nat_Bits.f k (l0.take ((mn (l0.length : Int) 6) : Int).toNat)).bind fun t731 => (if t731 = 0 then ((nat_Bits.f k (l1.take ((mn (l1.length : Int) 6) : Int).toNat)).bind fun t732 => (astrolabelaw03_QuoGcds.j0 k (l0.take ((mn (l0.length : Int) 6) : Int).toNat) (l1.take ((mn (l1.length : Int) 6) : Int).toNat) (l2.take ((mn (l2.length : Int) 6) : Int).toNat) t720 t724 t730 (t732 == 0))) else (astrolabelaw03_QuoGcds.j0 k (l0.take ((mn (l0.length : Int) 6) : Int).toNat) (l1.take ((mn (l1.length : Int) 6) : Int).toNat) (l2.take ((mn (l2.length : Int) 6) : Int).toNat) t720 t724 t730 false)))))) else (none)) else (none)) else (none)) else (none)) else (none)) else (none)) else (none))) = some r := h
  clear h
  replace H := Option.bind_eq_some_iff.mp H
  obtain ⟨t720, A40, H⟩ := H
  replace H : (if t720 = true then (if 0 ≤ (mn (l0.length : Int) 6) then (if (mn (l0.length : Int) 6) ≤ (l0.length : Int) then (if 0 ≤ (mn (l1.length : Int) 6) then (if (mn (l1.length : Int) 6) ≤ (l1.length : Int) then (if 0 ≤ (mn (l2.length : Int) 6) then (if (mn (l2.length : Int) 6) ≤ (l2.length : Int) then ((quo_Gcd.f k (l0.take ((mn (l0.length : Int) 6) : Int).toNat) (l1.take ((mn (l1.length : Int) 6) : Int).toNat)).bind fun t724 => ((quo_Gcd.f k (l1.take ((mn (l1.length : Int) 6) : Int).toNat) (l0.take ((mn (l0.length : Int) 6) : Int).toNat)).bind fun t727 => ((astrolabelaw03_digits.f k t724 t727).bind fun t730 => ((nat_Bits.f k (l0.take ((mn (l0.length : Int) 6) : Int).toNat)).bind fun t731 => (if t731 = 0 then ((nat_Bits.f k (l1.take ((mn (l1.length : Int) 6) : Int).toNat)).bind fun t732 => (astrolabelaw03_QuoGcds.j0 k (l0.take ((mn (l0.length : Int) 6) : Int).toNat) (l1.take ((mn (l1.length : Int) 6) : Int).toNat) (l2.take ((mn (l2.length : Int) 6) : Int).toNat) t720 t724 t730 (t732 == 0))) else (astrolabelaw03_QuoGcds.j0 k (l0.take ((mn (l0.length : Int) 6) : Int).toNat) (l1.take ((mn (l1.length : Int) 6) : Int).toNat) (l2.take ((mn (l2.length : Int) 6) : Int).toNat) t720 t724 t730 false)))))) else (none)) else (none)) else (none)) else (none)) else (none)) else (none)) else (none)) = some r := H
  have A4 := Aside0.mk A40
  clear A40
  by_cases c5 : t720 = true
  · subst c5
    have H1 : (if 0 ≤ (mn (l0.length : Int) 6) then (if (mn (l0.length : Int) 6) ≤ (l0.length : Int) then (if 0 ≤ (mn (l1.length : Int) 6) then (if (mn (l1.length : Int) 6) ≤ (l1.length : Int) then (if 0 ≤ (mn (l2.length : Int) 6) then (if (mn (l2.length : Int) 6) ≤ (l2.length : Int) then ((quo_Gcd.f k (l0.take ((mn (l0.length : Int) 6) : Int).toNat) (l1.take ((mn (l1.length : Int) 6) : Int).toNat)).bind fun t724 => ((quo_Gcd.f k (l1.take ((mn (l1.length : Int) 6) : Int).toNat) (l0.take ((mn (l0.length : Int) 6) : Int).toNat)).bind fun t727 => ((astrolabelaw03_digits.f k t724 t727).bind fun t730 => ((nat_Bits.f k (l0.take ((mn (l0.length : Int) 6) : Int).toNat)).bind fun t731 => (if t731 = 0 then ((nat_Bits.f k (l1.take ((mn (l1.length : Int) 6) : Int).toNat)).bind fun t732 => (astrolabelaw03_QuoGcds.j0 k (l0.take ((mn (l0.length : Int) 6) : Int).toNat) (l1.take ((mn (l1.length : Int) 6) : Int).toNat) (l2.take ((mn (l2.length : Int) 6) : Int).toNat) true t724 t730 (t732 == 0))) else (astrolabelaw03_QuoGcds.j0 k (l0.take ((mn (l0.length : Int) 6) : Int).toNat) (l1.take ((mn (l1.length : Int) 6) : Int).toNat) (l2.take ((mn (l2.length : Int) 6) : Int).toNat) true t724 t730 false)))))) else (none)) else (none)) else (none)) else (none)) else (none)) else (none)) = some r := by rw [if_pos rfl] at H; exact H
    clear H
    have H := H1
    clear H1
    obtain ⟨ji6, hji6⟩ : ∃ j_ : Int, (mn (l0.length : Int) 6) = j_ := ⟨_, rfl⟩
    replace H : (if 0 ≤ (ji6) then (if (ji6) ≤ (l0.length : Int) then (if 0 ≤ (mn (l1.length : Int) 6) then (if (mn (l1.length : Int) 6) ≤ (l1.length : Int) then (if 0 ≤ (mn (l2.length : Int) 6) then (if (mn (l2.length : Int) 6) ≤ (l2.length : Int) then ((quo_Gcd.f k (l0.take ((ji6) : Int).toNat) (l1.take ((mn (l1.length : Int) 6) : Int).toNat)).bind fun t724 => ((quo_Gcd.f k (l1.take ((mn (l1.length : Int) 6) : Int).toNat) (l0.take ((ji6) : Int).toNat)).bind fun t727 => ((astrolabelaw03_digits.f k t724 t727).bind fun t730 => ((nat_Bits.f k (l0.take ((ji6) : Int).toNat)).bind fun t731 => (if t731 = 0 then ((nat_Bits.f k (l1.take ((mn (l1.length : Int) 6) : Int).toNat)).bind fun t732 => (astrolabelaw03_QuoGcds.j0 k (l0.take ((ji6) : Int).toNat) (l1.take ((mn (l1.length : Int) 6) : Int).toNat) (l2.take ((mn (l2.length : Int) 6) : Int).toNat) true t724 t730 (t732 == 0))) else (astrolabelaw03_QuoGcds.j0 k (l0.take ((ji6) : Int).toNat) (l1.take ((mn (l1.length : Int) 6) : Int).toNat) (l2.take ((mn (l2.length : Int) 6) : Int).toNat) true t724 t730 false)))))) else (none)) else (none)) else (none)) else (none)) else (none)) else (none)) = some r := by first | (rw [hji6] at H; exact H) | (simp only [hji6] at H ⊢; exact H)
    (try rw [hji6] at A4)
    (try (have hji6h : ji6 ≤ 6 := by (rw [← hji6]; unfold mn; (repeat' split) <;> omega)))
    (try (have hji6g : ji6 ≤ 64 := by omega))
    (try (have hji6l : 0 ≤ ji6 := by (rw [← hji6]; unfold mn; (repeat' split) <;> omega)))
    (try (have hji6m : 0 ≤ ji6 := by omega))
    have hji6_ : (if 6 < (l0.length : Int) then 6 else (l0.length : Int)) = ji6 := hji6
    by_cases c7 : 0 ≤ (ji6)
    case neg => rw [if_neg c7] at H; exact absurd H (by simp)
    rw [if_pos c7] at H
    have c7b0 := eq_true c7
    have c7b1 : decide (0 ≤ (ji6)) = true := decide_eq_true c7
    clear c7
    by_cases c8 : (ji6) ≤ (l0.length : Int)
    case neg => rw [if_neg c8] at H; exact absurd H (by simp)
    rw [if_pos c8] at H
    have c8b0 := eq_true c8
    have c8b1 : decide ((ji6) ≤ (l0.length : Int)) = true := decide_eq_true c8
    clear c8
    obtain ⟨ji9, hji9⟩ : ∃ j_ : Int, (mn (l1.length : Int) 6) = j_ := ⟨_, rfl⟩
    replace H : (if 0 ≤ (ji9) then (if (ji9) ≤ (l1.length : Int) then (if 0 ≤ (mn (l2.length : Int) 6) then (if (mn (l2.length : Int) 6) ≤ (l2.length : Int) then ((quo_Gcd.f k (l0.take ((ji6) : Int).toNat) (l1.take ((ji9) : Int).toNat)).bind fun t724 => ((quo_Gcd.f k (l1.take ((ji9) : Int).toNat) (l0.take ((ji6) : Int).toNat)).bind fun t727 => ((astrolabelaw03_digits.f k t724 t727).bind fun t730 => ((nat_Bits.f k (l0.take ((ji6) : Int).toNat)).bind fun t731 => (if t731 = 0 then ((nat_Bits.f k (l1.take ((ji9) : Int).toNat)).bind fun t732 => (astrolabelaw03_QuoGcds.j0 k (l0.take ((ji6) : Int).toNat) (l1.take ((ji9) : Int).toNat) (l2.take ((mn (l2.length : Int) 6) : Int).toNat) true t724 t730 (t732 == 0))) else (astrolabelaw03_QuoGcds.j0 k (l0.take ((ji6) : Int).toNat) (l1.take ((ji9) : Int).toNat) (l2.take ((mn (l2.length : Int) 6) : Int).toNat) true t724 t730 false)))))) else (none)) else (none)) else (none)) else (none)) = some r := by first | (rw [hji9] at H; exact H) | (simp only [hji9] at H ⊢; exact H)
    (try rw [hji9] at A4)
    (try (have hji9h : ji9 ≤ 6 := by (rw [← hji9]; unfold mn; (repeat' split) <;> omega)))
    (try (have hji9g : ji9 ≤ 64 := by omega))
    (try (have hji9l : 0 ≤ ji9 := by (rw [← hji9]; unfold mn; (repeat' split) <;> omega)))
    (try (have hji9m : 0 ≤ ji9 := by omega))
    have hji9_ : (if 6 < (l1.length : Int) then 6 else (l1.length : Int)) = ji9 := hji9
    by_cases c10 : 0 ≤ (ji9)
    case neg => rw [if_neg c10] at H; exact absurd H (by simp)
    rw [if_pos c10] at H
    have c10b0 := eq_true c10
    have c10b1 : decide (0 ≤ (ji9)) = true := decide_eq_true c10
    clear c10
    by_cases c11 : (ji9) ≤ (l1.length : Int)
    case neg => rw [if_neg c11] at H; exact absurd H (by simp)
    rw [if_pos c11] at H
    have c11b0 := eq_true c11
    have c11b1 : decide ((ji9) ≤ (l1.length : Int)) = true := decide_eq_true c11
    clear c11
    obtain ⟨ji12, hji12⟩ : ∃ j_ : Int, (mn (l2.length : Int) 6) = j_ := ⟨_, rfl⟩
    replace H : (if 0 ≤ (ji12) then (if (ji12) ≤ (l2.length : Int) then ((quo_Gcd.f k (l0.take ((ji6) : Int).toNat) (l1.take ((ji9) : Int).toNat)).bind fun t724 => ((quo_Gcd.f k (l1.take ((ji9) : Int).toNat) (l0.take ((ji6) : Int).toNat)).bind fun t727 => ((astrolabelaw03_digits.f k t724 t727).bind fun t730 => ((nat_Bits.f k (l0.take ((ji6) : Int).toNat)).bind fun t731 => (if t731 = 0 then ((nat_Bits.f k (l1.take ((ji9) : Int).toNat)).bind fun t732 => (astrolabelaw03_QuoGcds.j0 k (l0.take ((ji6) : Int).toNat) (l1.take ((ji9) : Int).toNat) (l2.take ((ji12) : Int).toNat) true t724 t730 (t732 == 0))) else (astrolabelaw03_QuoGcds.j0 k (l0.take ((ji6) : Int).toNat) (l1.take ((ji9) : Int).toNat) (l2.take ((ji12) : Int).toNat) true t724 t730 false)))))) else (none)) else (none)) = some r := by first | (rw [hji12] at H; exact H) | (simp only [hji12] at H ⊢; exact H)
    (try rw [hji12] at A4)
    (try (have hji12h : ji12 ≤ 6 := by (rw [← hji12]; unfold mn; (repeat' split) <;> omega)))
    (try (have hji12g : ji12 ≤ 64 := by omega))
    (try (have hji12l : 0 ≤ ji12 := by (rw [← hji12]; unfold mn; (repeat' split) <;> omega)))
    (try (have hji12m : 0 ≤ ji12 := by omega))
    have hji12_ : (if 6 < (l2.length : Int) then 6 else (l2.length : Int)) = ji12 := hji12
    by_cases c13 : 0 ≤ (ji12)
    case neg => rw [if_neg c13] at H; exact absurd H (by simp)
    rw [if_pos c13] at H
    have c13b0 := eq_true c13
    have c13b1 : decide (0 ≤ (ji12)) = true := decide_eq_true c13
    clear c13
    by_cases c14 : (ji12) ≤ (l2.length : Int)
    case neg => rw [if_neg c14] at H; exact absurd H (by simp)
    rw [if_pos c14] at H
    have c14b0 := eq_true c14
    have c14b1 : decide ((ji12) ≤ (l2.length : Int)) = true := decide_eq_true c14
    clear c14
    replace H := Option.bind_eq_some_iff.mp H
    obtain ⟨t724, A150, H⟩ := H
    replace H : ((quo_Gcd.f k (l1.take ((ji9) : Int).toNat) (l0.take ((ji6) : Int).toNat)).bind fun t727 => ((astrolabelaw03_digits.f k t724 t727).bind fun t730 => ((nat_Bits.f k (l0.take ((ji6) : Int).toNat)).bind fun t731 => (if t731 = 0 then ((nat_Bits.f k (l1.take ((ji9) : Int).toNat)).bind fun t732 => (astrolabelaw03_QuoGcds.j0 k (l0.take ((ji6) : Int).toNat) (l1.take ((ji9) : Int).toNat) (l2.take ((ji12) : Int).toNat) true t724 t730 (t732 == 0))) else (astrolabelaw03_QuoGcds.j0 k (l0.take ((ji6) : Int).toNat) (l1.take ((ji9) : Int).toNat) (l2.take ((ji12) : Int).toNat) true t724 t730 false))))) = some r := H
    have A15 := Aside0.mk A150
    clear A150
    replace H := Option.bind_eq_some_iff.mp H
    obtain ⟨t727, A160, H⟩ := H
    replace H : ((astrolabelaw03_digits.f k t724 t727).bind fun t730 => ((nat_Bits.f k (l0.take ((ji6) : Int).toNat)).bind fun t731 => (if t731 = 0 then ((nat_Bits.f k (l1.take ((ji9) : Int).toNat)).bind fun t732 => (astrolabelaw03_QuoGcds.j0 k (l0.take ((ji6) : Int).toNat) (l1.take ((ji9) : Int).toNat) (l2.take ((ji12) : Int).toNat) true t724 t730 (t732 == 0))) else (astrolabelaw03_QuoGcds.j0 k (l0.take ((ji6) : Int).toNat) (l1.take ((ji9) : Int).toNat) (l2.take ((ji12) : Int).toNat) true t724 t730 false)))) = some r := H
    have A16 := Aside0.mk A160
    clear A160
    replace H := Option.bind_eq_some_iff.mp H
    obtain ⟨t730, A170, H⟩ := H
    replace H : ((nat_Bits.f k (l0.take ((ji6) : Int).toNat)).bind fun t731 => (if t731 = 0 then ((nat_Bits.f k (l1.take ((ji9) : Int).toNat)).bind fun t732 => (astrolabelaw03_QuoGcds.j0 k (l0.take ((ji6) : Int).toNat) (l1.take ((ji9) : Int).toNat) (l2.take ((ji12) : Int).toNat) true t724 t730 (t732 == 0))) else (astrolabelaw03_QuoGcds.j0 k (l0.take ((ji6) : Int).toNat) (l1.take ((ji9) : Int).toNat) (l2.take ((ji12) : Int).toNat) true t724 t730 false))) = some r := H
    have A17 := Aside0.mk A170
    clear A170
    have HC18 := Aside0.mk H
    clear H
    go_enter Try.func7, Try.ntmps7
    go_upto_region 9 with (first | ((with_reducible refine gate_callee (f := 11) rfl ?_); refine goesM_ (some 17) Try.func11 #[] rfl ?_; (with_reducible refine (astrolabelaw03_examples.calls k  true _ A4.out).mono ?_); rintro e w19 ⟨rfl, hb⟩; refine ⟨_, rfl, ?_⟩; have n0_ := Aside0.mk (below_step bl_ hb); clear HB; have HB := n0_; clear n0_; (try clear hb); (try clear hb2); (try clear hk); (try clear hi); obtain ⟨i020, hi020, _, hsz20, _⟩ := info_parts info37; obtain ⟨hcut20, hA20, hC20⟩ := print_take_of (P := Try.prog) (Value.int .u32) 0 22 37 .i64 Try.underlying22 hi020 hsz20 A0 c0 l0 (ji6) od_ od_ HC0.out; have HR721 := Aside0.mk (Kd.C_of_reads (h1 := fun _ => rfl) (hA20 _ (Kd.reads_of_C HR0.out))); have HC721 := Aside0.mk hC20; clear hA20 hC20 hi020 hsz20; obtain ⟨i021, hi021, _, hsz21, _⟩ := info_parts info37; obtain ⟨hcut21, hA21, hC21⟩ := print_take_of (P := Try.prog) (Value.int .u32) 0 22 37 .i64 Try.underlying22 hi021 hsz21 A1 c1 l1 (ji9) od_ od_ HC1.out; have HR722 := Aside0.mk (Kd.C_of_reads (h1 := fun _ => rfl) (hA21 _ (Kd.reads_of_C HR1.out))); have HC722 := Aside0.mk hC21; clear hA21 hC21 hi021 hsz21; obtain ⟨i022, hi022, _, hsz22, _⟩ := info_parts info37; obtain ⟨hcut22, hA22, hC22⟩ := print_take_of (P := Try.prog) (Value.int .u32) 0 22 37 .i64 Try.underlying22 hi022 hsz22 A2 c2 l2 (ji12) od_ od_ HC2.out; have HR723 := Aside0.mk (Kd.C_of_reads (h1 := fun _ => rfl) (hA22 _ (Kd.reads_of_C HR2.out))); have HC723 := Aside0.mk hC22; clear hA22 hC22 hi022 hsz22) | ((with_reducible refine gate_callee (f := 15) rfl ?_); refine goesM_ (some 37) Try.func15 #[.slice A0 (l0.take ((ji6) : Int).toNat).length c0, .slice A1 (l1.take ((ji9) : Int).toNat).length c1] rfl ?_ (by (try simp only [List.map_toArray, List.map_cons, List.map_nil]); first | done | (rw [show (l0.take ((ji6) : Int).toNat).length = (ji6).toNat from (by rw [List.length_take]; have h_ : ((ji6) : Int) ≤ (l0.length : Int) := (by first | exact od_ | (rw [← hji6]; unfold mn; split <;> omega)); omega)] <;> rfl) | (rw [show (l1.take ((ji9) : Int).toNat).length = (ji9).toNat from (by rw [List.length_take]; have h_ : ((ji9) : Int) ≤ (l1.length : Int) := (by first | exact od_ | (rw [← hji9]; unfold mn; split <;> omega)); omega)] <;> rfl) | (rw [show (l0.take ((ji6) : Int).toNat).length = (ji6).toNat from (by rw [List.length_take]; have h_ : ((ji6) : Int) ≤ (l0.length : Int) := (by first | exact od_ | (rw [← hji6]; unfold mn; split <;> omega)); omega), show (l1.take ((ji9) : Int).toNat).length = (ji9).toNat from (by rw [List.length_take]; have h_ : ((ji9) : Int) ≤ (l1.length : Int) := (by first | exact od_ | (rw [← hji9]; unfold mn; split <;> omega)); omega)] <;> rfl) | (simp only [hji6, hji9]; rfl) | rfl | (simp only [List.length_drop, List.length_take]; rfl)); (with_reducible refine (quo_Gcd.calls k _ _ (l0.take ((ji6) : Int).toNat) _ _ (l1.take ((ji9) : Int).toNat) t724 _ ?side1 ?side2 ?side3 ?side4 A15.out).mono ?_); (case side1 => repeat (first | exact (Kd.C_below HR721.out HB.out) | (with_reducible refine Kd.C_alloc ?_ _) | (with_reducible refine Kd.C_drewN ?_ _) | (with_reducible refine Kd.C_drew ?_))); (case side2 => exact HC721.out); (case side3 => repeat (first | exact (Kd.C_below HR722.out HB.out) | (with_reducible refine Kd.C_alloc ?_ _) | (with_reducible refine Kd.C_drewN ?_ _) | (with_reducible refine Kd.C_drew ?_))); (case side4 => exact HC722.out); rintro e w23 ⟨v725, rfl, ho0, hb⟩; refine ⟨_, rfl, ?_⟩; have n0_ := Aside0.mk (Kd.V_lower (Kd.V_mono (ok' := fun k_ => True) ho0 (fun k_ hk_ => trivial)) (below_size bl_)); have n1_ := Aside0.mk (below_step bl_ hb); clear HB; have HO726 := n0_; have HB := n1_; clear n0_ n1_; (try clear hb); (try clear hb2); (try clear hk); (try clear hi); (try clear ho0)) | ((with_reducible refine gate_callee (f := 15) rfl ?_); refine goesM_ (some 41) Try.func15 #[.slice A1 (l1.take ((ji9) : Int).toNat).length c1, .slice A0 (l0.take ((ji6) : Int).toNat).length c0] rfl ?_ (by (try simp only [List.map_toArray, List.map_cons, List.map_nil]); first | done | (rw [show (l1.take ((ji9) : Int).toNat).length = (ji9).toNat from (by rw [List.length_take]; have h_ : ((ji9) : Int) ≤ (l1.length : Int) := (by first | exact od_ | (rw [← hji9]; unfold mn; split <;> omega)); omega)] <;> rfl) | (rw [show (l0.take ((ji6) : Int).toNat).length = (ji6).toNat from (by rw [List.length_take]; have h_ : ((ji6) : Int) ≤ (l0.length : Int) := (by first | exact od_ | (rw [← hji6]; unfold mn; split <;> omega)); omega)] <;> rfl) | (rw [show (l1.take ((ji9) : Int).toNat).length = (ji9).toNat from (by rw [List.length_take]; have h_ : ((ji9) : Int) ≤ (l1.length : Int) := (by first | exact od_ | (rw [← hji9]; unfold mn; split <;> omega)); omega), show (l0.take ((ji6) : Int).toNat).length = (ji6).toNat from (by rw [List.length_take]; have h_ : ((ji6) : Int) ≤ (l0.length : Int) := (by first | exact od_ | (rw [← hji6]; unfold mn; split <;> omega)); omega)] <;> rfl) | (simp only [hji6, hji9]; rfl) | rfl | (simp only [List.length_drop, List.length_take]; rfl)); (with_reducible refine (quo_Gcd.calls k _ _ (l1.take ((ji9) : Int).toNat) _ _ (l0.take ((ji6) : Int).toNat) t727 _ ?side1 ?side2 ?side3 ?side4 A16.out).mono ?_); (case side1 => repeat (first | exact (Kd.C_below HR722.out HB.out) | (with_reducible refine Kd.C_alloc ?_ _) | (with_reducible refine Kd.C_drewN ?_ _) | (with_reducible refine Kd.C_drew ?_))); (case side2 => exact HC722.out); (case side3 => repeat (first | exact (Kd.C_below HR721.out HB.out) | (with_reducible refine Kd.C_alloc ?_ _) | (with_reducible refine Kd.C_drewN ?_ _) | (with_reducible refine Kd.C_drew ?_))); (case side4 => exact HC721.out); rintro e w24 ⟨v728, rfl, ho0, hb⟩; refine ⟨_, rfl, ?_⟩; have n0_ := Aside0.mk (Kd.V_below (mvV HO726.out) hb); have n1_ := Aside0.mk (Kd.V_lower (Kd.V_mono (ok' := fun k_ => True) ho0 (fun k_ hk_ => trivial)) (below_size bl_)); have n2_ := Aside0.mk (below_step bl_ hb); clear HO726; clear HB; have HO726 := n0_; have HO729 := n1_; have HB := n2_; clear n0_ n1_ n2_; (try clear hb); (try clear hb2); (try clear hk); (try clear hi); (try clear ho0); obtain ⟨Ao25, co25, eo25⟩ := Kd.V_slice HO726.out; subst eo25; obtain ⟨Ao26, co26, eo26⟩ := Kd.V_slice HO729.out; subst eo26) | ((with_reducible refine gate_callee (f := 14) rfl ?_); refine goesM_ (some 42) Try.func14 #[.slice Ao25 t724.length co25, .slice Ao26 t727.length co26] rfl ?_; (with_reducible refine (astrolabelaw03_digits.calls k _ _ t724 _ _ t727 t730 _ ?side1 ?side2 ?side3 ?side4 A17.out).mono ?_); (case side1 => repeat (first | exact (Kd.V_reads' HO726.out).2.2 | (with_reducible refine Kd.C_alloc ?_ _) | (with_reducible refine Kd.C_drewN ?_ _) | (with_reducible refine Kd.C_drew ?_))); (case side2 => exact (Kd.V_reads' HO726.out).2.1); (case side3 => repeat (first | exact (Kd.V_reads' HO729.out).2.2 | (with_reducible refine Kd.C_alloc ?_ _) | (with_reducible refine Kd.C_drewN ?_ _) | (with_reducible refine Kd.C_drew ?_))); (case side4 => exact (Kd.V_reads' HO729.out).2.1); rintro e w' ⟨rfl, ⟨nd, rfl⟩⟩; refine ⟨_, rfl, ?_⟩))
    (try simp only [Act.put, List.setIfInBounds_toArray, List.set_cons_zero, List.set_cons_succ])
    go_cut [50] (fun v50 wc => ∃ (kq : Nat) (x50_17 : Bool), v50 = .bool x50_17 ∧ Aside0 (astrolabelaw03_QuoGcds.j0 kq (l0.take ((ji6) : Int).toNat) (l1.take ((ji9) : Int).toNat) (l2.take ((ji12) : Int).toNat) true t724 t730 x50_17 = some r) ∧ Aside0 (kq ≤ k) ∧ Aside0 (Kd.V (Kd.int .u32) 37 wc w.heap.size (fun _ => True) (.slice Ao25 t724.length co25) t724) ∧ Aside0 (Below w.heap.size w wc))
    case first =>
      have H := HC18.out
      clear HC18
      replace H := Option.bind_eq_some_iff.mp H
      obtain ⟨t731, A270, H⟩ := H
      replace H : (if t731 = 0 then ((nat_Bits.f k (l1.take ((ji9) : Int).toNat)).bind fun t732 => (astrolabelaw03_QuoGcds.j0 k (l0.take ((ji6) : Int).toNat) (l1.take ((ji9) : Int).toNat) (l2.take ((ji12) : Int).toNat) true t724 t730 (t732 == 0))) else (astrolabelaw03_QuoGcds.j0 k (l0.take ((ji6) : Int).toNat) (l1.take ((ji9) : Int).toNat) (l2.take ((ji12) : Int).toNat) true t724 t730 false)) = some r := H
      have A27 := Aside0.mk A270
      clear A270
      by_cases c28 : t731 = 0
      · rw [if_pos c28] at H
        have c28b0 : (t731 == 0) = true := beq_iff_eq.mpr c28
        have c28b1 : (t731 != 0) = false := bne_eq_false_iff_eq.mpr c28
        clear c28
        (first | rw [c28b0] | (simp only [i64_w, i32_w]; rw [c28b0]) | rw [c28b1] | skip)
        replace H := Option.bind_eq_some_iff.mp H
        obtain ⟨t732, A290, H⟩ := H
        replace H : (astrolabelaw03_QuoGcds.j0 k (l0.take ((ji6) : Int).toNat) (l1.take ((ji9) : Int).toNat) (l2.take ((ji12) : Int).toNat) true t724 t730 (t732 == 0)) = some r := H
        have A29 := Aside0.mk A290
        clear A290
        have H' := Aside0.mk H
        clear H
        go_wp2_with (first | ((with_reducible refine gate_callee (f := 19) rfl ?_); refine goesM_ (some 44) Try.func19 #[.slice A0 (l0.take ((ji6) : Int).toNat).length c0] rfl ?_ (by (try simp only [List.map_toArray, List.map_cons, List.map_nil]); first | done | (rw [show (l0.take ((ji6) : Int).toNat).length = (ji6).toNat from (by rw [List.length_take]; have h_ : ((ji6) : Int) ≤ (l0.length : Int) := (by first | exact od_ | (rw [← hji6]; unfold mn; split <;> omega)); omega)] <;> rfl) | (simp only [hji6]; rfl) | rfl | (simp only [List.length_drop, List.length_take]; rfl)); (with_reducible refine (nat_Bits.calls k _ _ (l0.take ((ji6) : Int).toNat) t731 _ ?side1 ?side2 A27.out).mono ?_); (case side1 => repeat (first | exact (Kd.C_below HR721.out HB.out) | (with_reducible refine Kd.C_alloc ?_ _) | (with_reducible refine Kd.C_drewN ?_ _) | (with_reducible refine Kd.C_drew ?_))); (case side2 => exact HC721.out); rintro e w30 ⟨rfl, hb⟩; refine ⟨_, rfl, ?_⟩; have n0_ := Aside0.mk (Kd.V_below (mvV HO726.out) hb); have n1_ := Aside0.mk (Kd.V_below (mvV HO729.out) hb); have n2_ := Aside0.mk (below_step bl_ hb); clear HO726; clear HO729; clear HB; have HO726 := n0_; have HO729 := n1_; have HB := n2_; clear n0_ n1_ n2_; (try clear hb); (try clear hb2); (try clear hk); (try clear hi)) | (go_at_call 19; refine calls_of_args (args' := #[.slice A1 (l1.take ((ji9) : Int).toNat).length c1]) (by first | (rw [show (l1.take ((ji9) : Int).toNat).length = (ji9).toNat from (by rw [List.length_take]; have h_ : ((ji9) : Int) ≤ (l1.length : Int) := (by first | exact od_ | (rw [← hji9]; unfold mn; split <;> omega)); omega)] <;> rfl) | rfl) ?_; (with_reducible refine (nat_Bits.calls k _ _ (l1.take ((ji9) : Int).toNat) t732 _ ?side1 ?side2 A29.out).mono ?_); (case side1 => repeat (first | exact (Kd.C_below HR722.out HB.out) | (with_reducible refine Kd.C_alloc ?_ _) | (with_reducible refine Kd.C_drewN ?_ _) | (with_reducible refine Kd.C_drew ?_))); (case side2 => exact HC722.out); rintro e w31 ⟨rfl, hb⟩; have n0_ := Aside0.mk (Kd.V_below (mvV HO726.out) hb); have n1_ := Aside0.mk (Kd.V_below (mvV HO729.out) hb); have n2_ := Aside0.mk (below_step bl_ hb); clear HO726; clear HO729; clear HB; have HO726 := n0_; have HO729 := n1_; have HB := n2_; clear n0_ n1_ n2_; (try clear hb); (try clear hb2); (try clear hk); (try clear hi)))
        go_meet
        case rel => exact ⟨_, ((t732 == 0)), rs_, H', ⟨by first | omega | exact Nat.le_refl _⟩, ⟨mvV HO726.out⟩, ⟨bl_⟩⟩
      · rw [if_neg c28] at H
        have c28b0 : (t731 == 0) = false := beq_eq_false_iff_ne.mpr c28
        have c28b1 : (t731 != 0) = true := bne_iff_ne.mpr c28
        (first | rw [c28b0] | (simp only [i64_w, i32_w]; rw [c28b0]) | rw [c28b1] | skip)
        have H' := Aside0.mk H
        clear H
        go_wp2_with (first | ((with_reducible refine gate_callee (f := 19) rfl ?_); refine goesM_ (some 44) Try.func19 #[.slice A0 (l0.take ((ji6) : Int).toNat).length c0] rfl ?_ (by (try simp only [List.map_toArray, List.map_cons, List.map_nil]); first | done | (rw [show (l0.take ((ji6) : Int).toNat).length = (ji6).toNat from (by rw [List.length_take]; have h_ : ((ji6) : Int) ≤ (l0.length : Int) := (by first | exact od_ | (rw [← hji6]; unfold mn; split <;> omega)); omega)] <;> rfl) | (simp only [hji6]; rfl) | rfl | (simp only [List.length_drop, List.length_take]; rfl)); (with_reducible refine (nat_Bits.calls k _ _ (l0.take ((ji6) : Int).toNat) t731 _ ?side1 ?side2 A27.out).mono ?_); (case side1 => repeat (first | exact (Kd.C_below HR721.out HB.out) | (with_reducible refine Kd.C_alloc ?_ _) | (with_reducible refine Kd.C_drewN ?_ _) | (with_reducible refine Kd.C_drew ?_))); (case side2 => exact HC721.out); rintro e w32 ⟨rfl, hb⟩; refine ⟨_, rfl, ?_⟩; have n0_ := Aside0.mk (Kd.V_below (mvV HO726.out) hb); have n1_ := Aside0.mk (Kd.V_below (mvV HO729.out) hb); have n2_ := Aside0.mk (below_step bl_ hb); clear HO726; clear HO729; clear HB; have HO726 := n0_; have HO729 := n1_; have HB := n2_; clear n0_ n1_ n2_; (try clear hb); (try clear hb2); (try clear hk); (try clear hi)))
        go_meet
        case rel => exact ⟨_, (false), rs_, H', ⟨by first | omega | exact Nat.le_refl _⟩, ⟨mvV HO726.out⟩, ⟨bl_⟩⟩
    case rest =>
      clear HC18
      (try clear c1); (try clear c2); (try clear p2); (try clear c5); (try clear c7); (try clear c7b0); (try clear c7b1); (try clear c8); (try clear c8b0); (try clear c8b1); (try clear c10); (try clear c10b0); (try clear c10b1); (try clear c11); (try clear c11b0); (try clear c11b1); (try clear c13); (try clear c13b0); (try clear c13b1); (try clear c14); (try clear c14b0); (try clear c14b1); (try clear c15)
      (try clear c19); (try clear c28); (try clear c28b0); (try clear c28b1)
      obtain ⟨kq, x50_17, rfl, HA, HJ17, HO_8, HB⟩ := hcut
      cases kq with
      | zero => exact absurd HA.out (by simp [astrolabelaw03_QuoGcds.j0])
      | succ kj17 =>
        have H := HA.out
        clear HA
        simp only [astrolabelaw03_QuoGcds.j0] at H
        by_cases c33 : x50_17 = true
        · subst c33
          have H1 : (if true = true then (if t730 = true then (some ((t724.length : Int) == 0)) else (none)) else (none)) = some r := by rw [if_pos rfl] at H; exact H
          clear H
          have H := H1
          clear H1
          replace H : (if t730 = true then (some ((t724.length : Int) == 0)) else (none)) = some r := by first | exact H | (rw [if_pos rfl] at H; exact H)
          by_cases c34 : t730 = true
          · subst c34
            have H1 : (some ((t724.length : Int) == 0)) = some r := by rw [if_pos rfl] at H; exact H
            clear H
            have H := H1
            clear H1
            obtain rfl := Option.some.inj H
            go_wp2
            go_ret
            exact ⟨by first | rfl | (simp [errW_none, errW_some] <;> rfl) | (simp only [← hji6, ← hji9, ← hji12]; first | rfl | (simp [errW_none, errW_some] <;> rfl)) | (simp [*, errW_none, errW_some] <;> rfl), bl_⟩
          · replace c34 := Bool.eq_false_iff.mpr c34
            subst c34
            have H1 : (none) = some r := by rw [if_neg (show ¬ (false = true) by decide)] at H; exact H
            clear H
            have H := H1
            clear H1
            exact absurd H (by simp)
        · replace c33 := Bool.eq_false_iff.mpr c33
          subst c33
          have H1 : ((quo_DivMod.f kj17 (l0.take ((ji6) : Int).toNat) t724).bind fun bt733 => ((quo_DivMod.f kj17 (l1.take ((ji9) : Int).toNat) t724).bind fun bt740 => ((nat_Mul.f kj17 (l0.take ((ji6) : Int).toNat) (l2.take ((ji12) : Int).toNat)).bind fun t747 => ((nat_Mul.f kj17 (l1.take ((ji9) : Int).toNat) (l2.take ((ji12) : Int).toNat)).bind fun t750 => ((quo_Gcd.f kj17 t747 t750).bind fun t753 => ((nat_Mul.f kj17 t724 (l2.take ((ji12) : Int).toNat)).bind fun t756 => ((astrolabelaw03_digits.f kj17 t753 t756).bind fun t759 => (if true = true then (if t730 = true then (if bt733.2.2 = true then (if bt740.2.2 = true then (if (bt733.2.1.length : Int) = 0 then (if (bt740.2.1.length : Int) = 0 then (some t759) else (none)) else (none)) else (none)) else (none)) else (none)) else (none))))))))) = some r := by rw [if_neg (show ¬ (false = true) by decide)] at H; exact H
          clear H
          have H := H1
          clear H1
          replace H := Option.bind_eq_some_iff.mp H
          obtain ⟨⟨t733, t736, t739⟩, A350, H⟩ := H
          replace H : ((quo_DivMod.f kj17 (l1.take ((ji9) : Int).toNat) t724).bind fun bt740 => ((nat_Mul.f kj17 (l0.take ((ji6) : Int).toNat) (l2.take ((ji12) : Int).toNat)).bind fun t747 => ((nat_Mul.f kj17 (l1.take ((ji9) : Int).toNat) (l2.take ((ji12) : Int).toNat)).bind fun t750 => ((quo_Gcd.f kj17 t747 t750).bind fun t753 => ((nat_Mul.f kj17 t724 (l2.take ((ji12) : Int).toNat)).bind fun t756 => ((astrolabelaw03_digits.f kj17 t753 t756).bind fun t759 => (if true = true then (if t730 = true then (if t739 = true then (if bt740.2.2 = true then (if (t736.length : Int) = 0 then (if (bt740.2.1.length : Int) = 0 then (some t759) else (none)) else (none)) else (none)) else (none)) else (none)) else (none)))))))) = some r := H
          have A35 := Aside0.mk A350
          clear A350
          replace H := Option.bind_eq_some_iff.mp H
          obtain ⟨⟨t740, t743, t746⟩, A360, H⟩ := H
          replace H : ((nat_Mul.f kj17 (l0.take ((ji6) : Int).toNat) (l2.take ((ji12) : Int).toNat)).bind fun t747 => ((nat_Mul.f kj17 (l1.take ((ji9) : Int).toNat) (l2.take ((ji12) : Int).toNat)).bind fun t750 => ((quo_Gcd.f kj17 t747 t750).bind fun t753 => ((nat_Mul.f kj17 t724 (l2.take ((ji12) : Int).toNat)).bind fun t756 => ((astrolabelaw03_digits.f kj17 t753 t756).bind fun t759 => (if true = true then (if t730 = true then (if t739 = true then (if t746 = true then (if (t736.length : Int) = 0 then (if (t743.length : Int) = 0 then (some t759) else (none)) else (none)) else (none)) else (none)) else (none)) else (none))))))) = some r := H
          have A36 := Aside0.mk A360
          clear A360
          replace H := Option.bind_eq_some_iff.mp H
          obtain ⟨t747, A370, H⟩ := H
          replace H : ((nat_Mul.f kj17 (l1.take ((ji9) : Int).toNat) (l2.take ((ji12) : Int).toNat)).bind fun t750 => ((quo_Gcd.f kj17 t747 t750).bind fun t753 => ((nat_Mul.f kj17 t724 (l2.take ((ji12) : Int).toNat)).bind fun t756 => ((astrolabelaw03_digits.f kj17 t753 t756).bind fun t759 => (if true = true then (if t730 = true then (if t739 = true then (if t746 = true then (if (t736.length : Int) = 0 then (if (t743.length : Int) = 0 then (some t759) else (none)) else (none)) else (none)) else (none)) else (none)) else (none)))))) = some r := H
          have A37 := Aside0.mk A370
          clear A370
          replace H := Option.bind_eq_some_iff.mp H
          obtain ⟨t750, A380, H⟩ := H
          replace H : ((quo_Gcd.f kj17 t747 t750).bind fun t753 => ((nat_Mul.f kj17 t724 (l2.take ((ji12) : Int).toNat)).bind fun t756 => ((astrolabelaw03_digits.f kj17 t753 t756).bind fun t759 => (if true = true then (if t730 = true then (if t739 = true then (if t746 = true then (if (t736.length : Int) = 0 then (if (t743.length : Int) = 0 then (some t759) else (none)) else (none)) else (none)) else (none)) else (none)) else (none))))) = some r := H
          have A38 := Aside0.mk A380
          clear A380
          replace H := Option.bind_eq_some_iff.mp H
          obtain ⟨t753, A390, H⟩ := H
          replace H : ((nat_Mul.f kj17 t724 (l2.take ((ji12) : Int).toNat)).bind fun t756 => ((astrolabelaw03_digits.f kj17 t753 t756).bind fun t759 => (if true = true then (if t730 = true then (if t739 = true then (if t746 = true then (if (t736.length : Int) = 0 then (if (t743.length : Int) = 0 then (some t759) else (none)) else (none)) else (none)) else (none)) else (none)) else (none)))) = some r := H
          have A39 := Aside0.mk A390
          clear A390
          replace H := Option.bind_eq_some_iff.mp H
          obtain ⟨t756, A400, H⟩ := H
          replace H : ((astrolabelaw03_digits.f kj17 t753 t756).bind fun t759 => (if true = true then (if t730 = true then (if t739 = true then (if t746 = true then (if (t736.length : Int) = 0 then (if (t743.length : Int) = 0 then (some t759) else (none)) else (none)) else (none)) else (none)) else (none)) else (none))) = some r := H
          have A40 := Aside0.mk A400
          clear A400
          replace H := Option.bind_eq_some_iff.mp H
          obtain ⟨t759, A410, H⟩ := H
          replace H : (if true = true then (if t730 = true then (if t739 = true then (if t746 = true then (if (t736.length : Int) = 0 then (if (t743.length : Int) = 0 then (some t759) else (none)) else (none)) else (none)) else (none)) else (none)) else (none)) = some r := H
          have A41 := Aside0.mk A410
          clear A410
          replace H : (if t730 = true then (if t739 = true then (if t746 = true then (if (t736.length : Int) = 0 then (if (t743.length : Int) = 0 then (some t759) else (none)) else (none)) else (none)) else (none)) else (none)) = some r := by first | exact H | (rw [if_pos rfl] at H; exact H)
          by_cases c42 : t730 = true
          · subst c42
            have H1 : (if t739 = true then (if t746 = true then (if (t736.length : Int) = 0 then (if (t743.length : Int) = 0 then (some t759) else (none)) else (none)) else (none)) else (none)) = some r := by rw [if_pos rfl] at H; exact H
            clear H
            have H := H1
            clear H1
            by_cases c43 : t739 = true
            · subst c43
              have H1 : (if t746 = true then (if (t736.length : Int) = 0 then (if (t743.length : Int) = 0 then (some t759) else (none)) else (none)) else (none)) = some r := by rw [if_pos rfl] at H; exact H
              clear H
              have H := H1
              clear H1
              by_cases c44 : t746 = true
              · subst c44
                have H1 : (if (t736.length : Int) = 0 then (if (t743.length : Int) = 0 then (some t759) else (none)) else (none)) = some r := by rw [if_pos rfl] at H; exact H
                clear H
                have H := H1
                clear H1
                by_cases c45 : (t736.length : Int) = 0
                case neg => rw [if_neg c45] at H; exact absurd H (by simp)
                rw [if_pos c45] at H
                have c45b0 : ((t736.length : Int) == 0) = true := beq_iff_eq.mpr c45
                have c45b1 : ((t736.length : Int) != 0) = false := bne_eq_false_iff_eq.mpr c45
                clear c45
                by_cases c46 : (t743.length : Int) = 0
                case neg => rw [if_neg c46] at H; exact absurd H (by simp)
                rw [if_pos c46] at H
                have c46b0 : ((t743.length : Int) == 0) = true := beq_iff_eq.mpr c46
                have c46b1 : ((t743.length : Int) != 0) = false := bne_eq_false_iff_eq.mpr c46
                clear c46
                obtain rfl := Option.some.inj H
                go_wp2_with (first | ((with_reducible refine gate_callee (f := 12) rfl ?_); refine goesM_ (some 63) Try.func12 #[.slice A0 (l0.take ((ji6) : Int).toNat).length c0, .slice Ao25 t724.length co25] rfl ?_ (by (try simp only [List.map_toArray, List.map_cons, List.map_nil]); first | done | (rw [show (l0.take ((ji6) : Int).toNat).length = (ji6).toNat from (by rw [List.length_take]; have h_ : ((ji6) : Int) ≤ (l0.length : Int) := (by first | exact od_ | (rw [← hji6]; unfold mn; split <;> omega)); omega)] <;> rfl) | (simp only [hji6]; rfl) | rfl | (simp only [List.length_drop, List.length_take]; rfl)); (with_reducible refine (quo_DivMod.calls kj17 _ _ (l0.take ((ji6) : Int).toNat) _ _ t724 t733 t736 true _ ?side1 ?side2 ?side3 ?side4 A35.out).mono ?_); (case side1 => repeat (first | exact (Kd.C_below HR721.out HB.out) | (with_reducible refine Kd.C_alloc ?_ _) | (with_reducible refine Kd.C_drewN ?_ _) | (with_reducible refine Kd.C_drew ?_))); (case side2 => exact HC721.out); (case side3 => repeat (first | exact (Kd.V_reads' HO_8.out).2.2 | (with_reducible refine Kd.C_alloc ?_ _) | (with_reducible refine Kd.C_drewN ?_ _) | (with_reducible refine Kd.C_drew ?_))); (case side4 => exact (Kd.V_reads' HO_8.out).2.1); rintro e w47 ⟨v734, v737, rfl, ho0, ho1, hb⟩; refine ⟨_, rfl, ?_⟩; have n0_ := Aside0.mk (Kd.V_elder' (mvV HO_8.out) (Kd.R_base ho0) hb); have n1_ := Aside0.mk (Kd.R_lower (Kd.R_mono (ok' := fun k_ => True) ho0 (fun _ hk_ => trivial)) (below_size bl_)); have n2_ := Aside0.mk (Kd.V_lower (Kd.V_mono (ok' := fun k_ => some k_ ≠ (v734 : Value).ownBlock) ho1 (fun k_ hk_ => hk_.2)) (below_size bl_)); have n3_ := Aside0.mk (below_step bl_ hb); clear HO_8; clear HB; have HO_8 := n0_; have HO735 := n1_; have HO738 := n2_; have HB := n3_; clear n0_ n1_ n2_ n3_; (try clear hb); (try clear hb2); (try clear hk); (try clear hi); (try clear ho0); (try clear ho1)) | ((with_reducible refine gate_callee (f := 12) rfl ?_); refine goesM_ (some 70) Try.func12 #[.slice A1 (l1.take ((ji9) : Int).toNat).length c1, .slice Ao25 t724.length co25] rfl ?_ (by (try simp only [List.map_toArray, List.map_cons, List.map_nil]); first | done | (rw [show (l1.take ((ji9) : Int).toNat).length = (ji9).toNat from (by rw [List.length_take]; have h_ : ((ji9) : Int) ≤ (l1.length : Int) := (by first | exact od_ | (rw [← hji9]; unfold mn; split <;> omega)); omega)] <;> rfl) | (simp only [hji9]; rfl) | rfl | (simp only [List.length_drop, List.length_take]; rfl)); (with_reducible refine (quo_DivMod.calls kj17 _ _ (l1.take ((ji9) : Int).toNat) _ _ t724 t740 t743 true _ ?side1 ?side2 ?side3 ?side4 A36.out).mono ?_); (case side1 => repeat (first | exact (Kd.C_below HR722.out HB.out) | (with_reducible refine Kd.C_alloc ?_ _) | (with_reducible refine Kd.C_drewN ?_ _) | (with_reducible refine Kd.C_drew ?_))); (case side2 => exact HC722.out); (case side3 => repeat (first | exact (Kd.V_reads' HO_8.out).2.2 | (with_reducible refine Kd.C_alloc ?_ _) | (with_reducible refine Kd.C_drewN ?_ _) | (with_reducible refine Kd.C_drew ?_))); (case side4 => exact (Kd.V_reads' HO_8.out).2.1); rintro e w48 ⟨v741, v744, rfl, ho0, ho1, hb⟩; refine ⟨_, rfl, ?_⟩; have n0_ := Aside0.mk (Kd.V_elder' (mvV HO_8.out) (Kd.R_base ho0) hb); have n1_ := Aside0.mk (Kd.R_elder' (mvR HO735.out) (Kd.R_base ho0) hb); have n2_ := Aside0.mk (Kd.V_elder' (mvV HO738.out) (Kd.R_base ho0) hb); have n3_ := Aside0.mk (Kd.R_lower (Kd.R_new' (Kd.R_mono (ok' := fun k_ => True) ho0 (fun _ hk_ => trivial)) (Kd.R_lt (mvR HO735.out))) (below_size bl_)); have n4_ := Aside0.mk (Kd.V_lower (Kd.V_mono (ok' := fun k_ => some k_ ≠ (v741 : Value).ownBlock ∧ some k_ ≠ (v734 : Value).ownBlock) ho1 (fun k_ hk_ => ⟨hk_.2, (Kd.fresh' (Kd.R_lt (mvR HO735.out)) k_ hk_.1)⟩)) (below_size bl_)); have n5_ := Aside0.mk (below_step bl_ hb); clear HO_8; clear HO735; clear HO738; clear HB; have HO_8 := n0_; have HO735 := n1_; have HO738 := n2_; have HO742 := n3_; have HO745 := n4_; have HB := n5_; clear n0_ n1_ n2_ n3_ n4_ n5_; (try clear hb); (try clear hb2); (try clear hk); (try clear hi); (try clear ho0); (try clear ho1)) | ((with_reducible refine gate_callee (f := 21) rfl ?_); refine goesM_ (some 76) Try.func21 #[.slice A0 (l0.take ((ji6) : Int).toNat).length c0, .slice A2 (l2.take ((ji12) : Int).toNat).length c2] rfl ?_ (by (try simp only [List.map_toArray, List.map_cons, List.map_nil]); first | done | (rw [show (l0.take ((ji6) : Int).toNat).length = (ji6).toNat from (by rw [List.length_take]; have h_ : ((ji6) : Int) ≤ (l0.length : Int) := (by first | exact od_ | (rw [← hji6]; unfold mn; split <;> omega)); omega)] <;> rfl) | (rw [show (l2.take ((ji12) : Int).toNat).length = (ji12).toNat from (by rw [List.length_take]; have h_ : ((ji12) : Int) ≤ (l2.length : Int) := (by first | exact od_ | (rw [← hji12]; unfold mn; split <;> omega)); omega)] <;> rfl) | (rw [show (l0.take ((ji6) : Int).toNat).length = (ji6).toNat from (by rw [List.length_take]; have h_ : ((ji6) : Int) ≤ (l0.length : Int) := (by first | exact od_ | (rw [← hji6]; unfold mn; split <;> omega)); omega), show (l2.take ((ji12) : Int).toNat).length = (ji12).toNat from (by rw [List.length_take]; have h_ : ((ji12) : Int) ≤ (l2.length : Int) := (by first | exact od_ | (rw [← hji12]; unfold mn; split <;> omega)); omega)] <;> rfl) | (simp only [hji12, hji6]; rfl) | rfl | (simp only [List.length_drop, List.length_take]; rfl)); (with_reducible refine (nat_Mul.calls kj17 (fun k_ => k_ < w.heap.size) _ _ (l0.take ((ji6) : Int).toNat) (fun k_ => k_ < w.heap.size) _ _ (l2.take ((ji12) : Int).toNat) t747 _ ?side1 ?side2 A37.out).mono ?_); (case side1 => exact Kd.V_mk HC721.out (Kd.F_below (Kd.C_F (Kd.heap_int .u32) HR721.out) bl_)); (case side2 => exact Kd.V_mk HC723.out (Kd.F_below (Kd.C_F (Kd.heap_int .u32) HR723.out) bl_)); rintro e w49 ⟨v748, rfl, ho0, hb⟩; refine ⟨_, rfl, ?_⟩; have n0_ := Aside0.mk (Kd.V_below (mvV HO_8.out) hb); have n1_ := Aside0.mk (Kd.R_below (mvR HO735.out) hb); have n2_ := Aside0.mk (Kd.V_below (mvV HO738.out) hb); have n3_ := Aside0.mk (Kd.R_below (mvR HO742.out) hb); have n4_ := Aside0.mk (Kd.V_below (mvV HO745.out) hb); have n5_ := Aside0.mk (Kd.V_lower (Kd.V_mono (ok' := fun k_ => some k_ ≠ (v734 : Value).ownBlock ∧ some k_ ≠ (v741 : Value).ownBlock) ho0 (fun k_ hk_ => ⟨Or.elim hk_ (fun hs_ => Or.elim hs_ (fun hs_ => fun e_ => Nat.not_le.2 hs_ (Kd.R_base HO735.out k_ e_.symm)) (fun hs_ => fun e_ => Nat.not_le.2 hs_ (Kd.R_base HO735.out k_ e_.symm))) (fun hn_ => (Kd.fresh' (Kd.R_lt (mvR HO735.out)) k_ hn_)), Or.elim hk_ (fun hs_ => Or.elim hs_ (fun hs_ => fun e_ => Nat.not_le.2 hs_ (Kd.R_base HO742.out k_ e_.symm)) (fun hs_ => fun e_ => Nat.not_le.2 hs_ (Kd.R_base HO742.out k_ e_.symm))) (fun hn_ => (Kd.fresh' (Kd.R_lt (mvR HO742.out)) k_ hn_))⟩)) (below_size bl_)); have n6_ := Aside0.mk (below_step bl_ hb); clear HO_8; clear HO735; clear HO738; clear HO742; clear HO745; clear HB; have HO_8 := n0_; have HO735 := n1_; have HO738 := n2_; have HO742 := n3_; have HO745 := n4_; have HO749 := n5_; have HB := n6_; clear n0_ n1_ n2_ n3_ n4_ n5_ n6_; (try clear hb); (try clear hb2); (try clear hk); (try clear hi); (try clear ho0)) | ((with_reducible refine gate_callee (f := 21) rfl ?_); refine goesM_ (some 79) Try.func21 #[.slice A1 (l1.take ((ji9) : Int).toNat).length c1, .slice A2 (l2.take ((ji12) : Int).toNat).length c2] rfl ?_ (by (try simp only [List.map_toArray, List.map_cons, List.map_nil]); first | done | (rw [show (l1.take ((ji9) : Int).toNat).length = (ji9).toNat from (by rw [List.length_take]; have h_ : ((ji9) : Int) ≤ (l1.length : Int) := (by first | exact od_ | (rw [← hji9]; unfold mn; split <;> omega)); omega)] <;> rfl) | (rw [show (l2.take ((ji12) : Int).toNat).length = (ji12).toNat from (by rw [List.length_take]; have h_ : ((ji12) : Int) ≤ (l2.length : Int) := (by first | exact od_ | (rw [← hji12]; unfold mn; split <;> omega)); omega)] <;> rfl) | (rw [show (l1.take ((ji9) : Int).toNat).length = (ji9).toNat from (by rw [List.length_take]; have h_ : ((ji9) : Int) ≤ (l1.length : Int) := (by first | exact od_ | (rw [← hji9]; unfold mn; split <;> omega)); omega), show (l2.take ((ji12) : Int).toNat).length = (ji12).toNat from (by rw [List.length_take]; have h_ : ((ji12) : Int) ≤ (l2.length : Int) := (by first | exact od_ | (rw [← hji12]; unfold mn; split <;> omega)); omega)] <;> rfl) | (simp only [hji12, hji9]; rfl) | rfl | (simp only [List.length_drop, List.length_take]; rfl)); (with_reducible refine (nat_Mul.calls kj17 (fun k_ => k_ < w.heap.size) _ _ (l1.take ((ji9) : Int).toNat) (fun k_ => k_ < w.heap.size) _ _ (l2.take ((ji12) : Int).toNat) t750 _ ?side1 ?side2 A38.out).mono ?_); (case side1 => exact Kd.V_mk HC722.out (Kd.F_below (Kd.C_F (Kd.heap_int .u32) HR722.out) bl_)); (case side2 => exact Kd.V_mk HC723.out (Kd.F_below (Kd.C_F (Kd.heap_int .u32) HR723.out) bl_)); rintro e w50 ⟨v751, rfl, ho0, hb⟩; refine ⟨_, rfl, ?_⟩; have n0_ := Aside0.mk (Kd.V_below (mvV HO_8.out) hb); have n1_ := Aside0.mk (Kd.R_below (mvR HO735.out) hb); have n2_ := Aside0.mk (Kd.V_below (mvV HO738.out) hb); have n3_ := Aside0.mk (Kd.R_below (mvR HO742.out) hb); have n4_ := Aside0.mk (Kd.V_below (mvV HO745.out) hb); have n5_ := Aside0.mk (Kd.V_below (mvV HO749.out) hb); have n6_ := Aside0.mk (Kd.V_lower (Kd.V_mono (ok' := fun k_ => some k_ ≠ (v734 : Value).ownBlock ∧ some k_ ≠ (v741 : Value).ownBlock) ho0 (fun k_ hk_ => ⟨Or.elim hk_ (fun hs_ => Or.elim hs_ (fun hs_ => fun e_ => Nat.not_le.2 hs_ (Kd.R_base HO735.out k_ e_.symm)) (fun hs_ => fun e_ => Nat.not_le.2 hs_ (Kd.R_base HO735.out k_ e_.symm))) (fun hn_ => (Kd.fresh' (Kd.R_lt (mvR HO735.out)) k_ hn_)), Or.elim hk_ (fun hs_ => Or.elim hs_ (fun hs_ => fun e_ => Nat.not_le.2 hs_ (Kd.R_base HO742.out k_ e_.symm)) (fun hs_ => fun e_ => Nat.not_le.2 hs_ (Kd.R_base HO742.out k_ e_.symm))) (fun hn_ => (Kd.fresh' (Kd.R_lt (mvR HO742.out)) k_ hn_))⟩)) (below_size bl_)); have n7_ := Aside0.mk (below_step bl_ hb); clear HO_8; clear HO735; clear HO738; clear HO742; clear HO745; clear HO749; clear HB; have HO_8 := n0_; have HO735 := n1_; have HO738 := n2_; have HO742 := n3_; have HO745 := n4_; have HO749 := n5_; have HO752 := n6_; have HB := n7_; clear n0_ n1_ n2_ n3_ n4_ n5_ n6_ n7_; (try clear hb); (try clear hb2); (try clear hk); (try clear hi); (try clear ho0); obtain ⟨Ao51, co51, eo51⟩ := Kd.V_slice HO749.out; subst eo51; obtain ⟨Ao52, co52, eo52⟩ := Kd.V_slice HO752.out; subst eo52) | ((with_reducible refine gate_callee (f := 15) rfl ?_); refine goesM_ (some 80) Try.func15 #[.slice Ao51 t747.length co51, .slice Ao52 t750.length co52] rfl ?_; (with_reducible refine (quo_Gcd.calls kj17 _ _ t747 _ _ t750 t753 _ ?side1 ?side2 ?side3 ?side4 A39.out).mono ?_); (case side1 => repeat (first | exact (Kd.V_reads' HO749.out).2.2 | (with_reducible refine Kd.C_alloc ?_ _) | (with_reducible refine Kd.C_drewN ?_ _) | (with_reducible refine Kd.C_drew ?_))); (case side2 => exact (Kd.V_reads' HO749.out).2.1); (case side3 => repeat (first | exact (Kd.V_reads' HO752.out).2.2 | (with_reducible refine Kd.C_alloc ?_ _) | (with_reducible refine Kd.C_drewN ?_ _) | (with_reducible refine Kd.C_drew ?_))); (case side4 => exact (Kd.V_reads' HO752.out).2.1); rintro e w53 ⟨v754, rfl, ho0, hb⟩; refine ⟨_, rfl, ?_⟩; have n0_ := Aside0.mk (Kd.V_below (mvV HO_8.out) hb); have n1_ := Aside0.mk (Kd.R_below (mvR HO735.out) hb); have n2_ := Aside0.mk (Kd.V_below (mvV HO738.out) hb); have n3_ := Aside0.mk (Kd.R_below (mvR HO742.out) hb); have n4_ := Aside0.mk (Kd.V_below (mvV HO745.out) hb); have n5_ := Aside0.mk (Kd.V_below (mvV HO749.out) hb); have n6_ := Aside0.mk (Kd.V_below (mvV HO752.out) hb); have n7_ := Aside0.mk (Kd.V_lower (Kd.V_mono (ok' := fun k_ => some k_ ≠ (v734 : Value).ownBlock ∧ some k_ ≠ (v741 : Value).ownBlock) ho0 (fun k_ hk_ => ⟨(Kd.fresh' (Kd.R_lt (mvR HO735.out)) k_ hk_), (Kd.fresh' (Kd.R_lt (mvR HO742.out)) k_ hk_)⟩)) (below_size bl_)); have n8_ := Aside0.mk (below_step bl_ hb); clear HO_8; clear HO735; clear HO738; clear HO742; clear HO745; clear HO749; clear HO752; clear HB; have HO_8 := n0_; have HO735 := n1_; have HO738 := n2_; have HO742 := n3_; have HO745 := n4_; have HO749 := n5_; have HO752 := n6_; have HO755 := n7_; have HB := n8_; clear n0_ n1_ n2_ n3_ n4_ n5_ n6_ n7_ n8_; (try clear hb); (try clear hb2); (try clear hk); (try clear hi); (try clear ho0)) | ((with_reducible refine gate_callee (f := 21) rfl ?_); refine goesM_ (some 83) Try.func21 #[.slice Ao25 t724.length co25, .slice A2 (l2.take ((ji12) : Int).toNat).length c2] rfl ?_ (by (try simp only [List.map_toArray, List.map_cons, List.map_nil]); first | done | (rw [show (l2.take ((ji12) : Int).toNat).length = (ji12).toNat from (by rw [List.length_take]; have h_ : ((ji12) : Int) ≤ (l2.length : Int) := (by first | exact od_ | (rw [← hji12]; unfold mn; split <;> omega)); omega)] <;> rfl) | (simp only [hji12]; rfl) | rfl | (simp only [List.length_drop, List.length_take]; rfl)); (with_reducible refine (nat_Mul.calls kj17 (fun k_ => ((True ∧ some k_ ≠ (v734 : Value).ownBlock) ∧ some k_ ≠ (v741 : Value).ownBlock)) _ _ t724 (fun k_ => k_ < w.heap.size) _ _ (l2.take ((ji12) : Int).toNat) t756 _ ?side1 ?side2 A40.out).mono ?_); (case side1 => exact HO_8.out); (case side2 => exact Kd.V_mk HC723.out (Kd.F_below (Kd.C_F (Kd.heap_int .u32) HR723.out) bl_)); rintro e w54 ⟨v757, rfl, ho0, hb⟩; refine ⟨_, rfl, ?_⟩; have n0_ := Aside0.mk (Kd.V_below (mvV HO_8.out) hb); have n1_ := Aside0.mk (Kd.R_below (mvR HO735.out) hb); have n2_ := Aside0.mk (Kd.V_below (mvV HO738.out) hb); have n3_ := Aside0.mk (Kd.R_below (mvR HO742.out) hb); have n4_ := Aside0.mk (Kd.V_below (mvV HO745.out) hb); have n5_ := Aside0.mk (Kd.V_below (mvV HO749.out) hb); have n6_ := Aside0.mk (Kd.V_below (mvV HO752.out) hb); have n7_ := Aside0.mk (Kd.V_below (mvV HO755.out) hb); have n8_ := Aside0.mk (Kd.V_lower (Kd.V_mono (ok' := fun k_ => some k_ ≠ (v734 : Value).ownBlock ∧ some k_ ≠ (v741 : Value).ownBlock) ho0 (fun k_ hk_ => ⟨Or.elim hk_ (fun hs_ => Or.elim hs_ (fun hs_ => hs_.1.2) (fun hs_ => fun e_ => Nat.not_le.2 hs_ (Kd.R_base HO735.out k_ e_.symm))) (fun hn_ => (Kd.fresh' (Kd.R_lt (mvR HO735.out)) k_ hn_)), Or.elim hk_ (fun hs_ => Or.elim hs_ (fun hs_ => hs_.2) (fun hs_ => fun e_ => Nat.not_le.2 hs_ (Kd.R_base HO742.out k_ e_.symm))) (fun hn_ => (Kd.fresh' (Kd.R_lt (mvR HO742.out)) k_ hn_))⟩)) (below_size bl_)); have n9_ := Aside0.mk (below_step bl_ hb); clear HO_8; clear HO735; clear HO738; clear HO742; clear HO745; clear HO749; clear HO752; clear HO755; clear HB; have HO_8 := n0_; have HO735 := n1_; have HO738 := n2_; have HO742 := n3_; have HO745 := n4_; have HO749 := n5_; have HO752 := n6_; have HO755 := n7_; have HO758 := n8_; have HB := n9_; clear n0_ n1_ n2_ n3_ n4_ n5_ n6_ n7_ n8_ n9_; (try clear hb); (try clear hb2); (try clear hk); (try clear hi); (try clear ho0); obtain ⟨Ao55, co55, eo55⟩ := Kd.V_slice HO755.out; subst eo55; obtain ⟨Ao56, co56, eo56⟩ := Kd.V_slice HO758.out; subst eo56) | ((with_reducible refine gate_callee (f := 14) rfl ?_); refine goesM_ (some 84) Try.func14 #[.slice Ao55 t753.length co55, .slice Ao56 t756.length co56] rfl ?_; (with_reducible refine (astrolabelaw03_digits.calls kj17 _ _ t753 _ _ t756 t759 _ ?side1 ?side2 ?side3 ?side4 A41.out).mono ?_); (case side1 => repeat (first | exact (Kd.V_reads' HO755.out).2.2 | (with_reducible refine Kd.C_alloc ?_ _) | (with_reducible refine Kd.C_drewN ?_ _) | (with_reducible refine Kd.C_drew ?_))); (case side2 => exact (Kd.V_reads' HO755.out).2.1); (case side3 => repeat (first | exact (Kd.V_reads' HO758.out).2.2 | (with_reducible refine Kd.C_alloc ?_ _) | (with_reducible refine Kd.C_drewN ?_ _) | (with_reducible refine Kd.C_drew ?_))); (case side4 => exact (Kd.V_reads' HO758.out).2.1); rintro e w' ⟨rfl, ⟨nd, rfl⟩⟩; refine ⟨_, rfl, ?_⟩; obtain ⟨Ao57, co57, eo57⟩ := Kd.V_slice HO738.out; subst eo57; obtain ⟨Ao58, co58, eo58⟩ := Kd.V_slice HO745.out; subst eo58))
                go_ret
                exact ⟨by first | rfl | (simp [errW_none, errW_some] <;> rfl) | (simp only [← hji6, ← hji9, ← hji12]; first | rfl | (simp [errW_none, errW_some] <;> rfl)) | (simp [*, errW_none, errW_some] <;> rfl), bl_⟩
              · replace c44 := Bool.eq_false_iff.mpr c44
                subst c44
                have H1 : (none) = some r := by rw [if_neg (show ¬ (false = true) by decide)] at H; exact H
                clear H
                have H := H1
                clear H1
                exact absurd H (by simp)
            · replace c43 := Bool.eq_false_iff.mpr c43
              subst c43
              have H1 : (none) = some r := by rw [if_neg (show ¬ (false = true) by decide)] at H; exact H
              clear H
              have H := H1
              clear H1
              exact absurd H (by simp)
          · replace c42 := Bool.eq_false_iff.mpr c42
            subst c42
            have H1 : (none) = some r := by rw [if_neg (show ¬ (false = true) by decide)] at H; exact H
            clear H
            have H := H1
            clear H1
            exact absurd H (by simp)
  · replace c5 := Bool.eq_false_iff.mpr c5
    subst c5
    have H1 : (none) = some r := by rw [if_neg (show ¬ (false = true) by decide)] at H; exact H
    clear H
    have H := H1
    clear H1
    exact absurd H (by simp)

/-- THE ONE PURE STATEMENT of astrolabelaw03_QuoGcds: yours. -/
def astrolabelaw03_QuoGcds.Pure : Prop := ∀ (l0 : List Int) (l1 : List Int) (l2 : List Int), l0.length ≤ maxLen → l0.length * 4 ≤ 140737488351232 → (∀ x ∈ l0, (Lit.int .u32 x).wf = true) → l1.length ≤ maxLen → l1.length * 4 ≤ 140737488351232 → (∀ x ∈ l1, (Lit.int .u32 x).wf = true) → l2.length ≤ maxLen → l2.length * 4 ≤ 140737488351232 → (∀ x ∈ l2, (Lit.int .u32 x).wf = true) → ∃ k, astrolabelaw03_QuoGcds.f k l0 l1 l2 = some true
theorem astrolabelaw03_QuoGcds.walk (P : astrolabelaw03_QuoGcds.Pure) (a0 : Option Addr) (len0 cap0 : Nat) (z0 : List Int) (a1 : Option Addr) (len1 cap1 : Nat) (z1 : List Int) (a2 : Option Addr) (len2 cap2 : Nat) (z2 : List Int) (w : World) (w0 : (a0 = none ∧ len0 = 0 ∧ cap0 = 0 ∧ z0 = []) ∨ ∃ x, a0 = some x ∧ len0 ≤ cap0 ∧ cap0 ≤ maxLen ∧ z0.length = cap0 ∧ (∀ i, i < z0.length → w.cell? (x.add i) = some (.int .u32 (z0.getD i 0))) ∧ ∀ n ∈ z0, (Lit.int .u32 n).wf = true) (y0 : len0 * 4 ≤ 140737488351232) (w1 : (a1 = none ∧ len1 = 0 ∧ cap1 = 0 ∧ z1 = []) ∨ ∃ x, a1 = some x ∧ len1 ≤ cap1 ∧ cap1 ≤ maxLen ∧ z1.length = cap1 ∧ (∀ i, i < z1.length → w.cell? (x.add i) = some (.int .u32 (z1.getD i 0))) ∧ ∀ n ∈ z1, (Lit.int .u32 n).wf = true) (y1 : len1 * 4 ≤ 140737488351232) (w2 : (a2 = none ∧ len2 = 0 ∧ cap2 = 0 ∧ z2 = []) ∨ ∃ x, a2 = some x ∧ len2 ≤ cap2 ∧ cap2 ≤ maxLen ∧ z2.length = cap2 ∧ (∀ i, i < z2.length → w.cell? (x.add i) = some (.int .u32 (z2.getD i 0))) ∧ ∀ n ∈ z2, (Lit.int .u32 n).wf = true) (y2 : len2 * 4 ≤ 140737488351232) :
    Calls Try.prog 7 #[.slice a0 len0 cap0, .slice a1 len1 cap1, .slice a2 len2 cap2] w fun e w' => e = .returned (.bool true) ∧ Below w.heap.size w w' := by
  obtain ⟨l0, rfl, hr0, hm0, hw0, hc0⟩ := ReadsInt.ofRowC w0
  obtain ⟨l1, rfl, hr1, hm1, hw1, hc1⟩ := ReadsInt.ofRowC w1
  obtain ⟨l2, rfl, hr2, hm2, hw2, hc2⟩ := ReadsInt.ofRowC w2
  obtain ⟨k, h⟩ := P l0 l1 l2 hm0 y0 hw0 hm1 y1 hw1 hm2 y2 hw2
  refine (astrolabelaw03_QuoGcds.calls k _ _ l0 _ _ l1 _ _ l2 true w (Kd.C_of_reads (d := (0 : Int)) (h1 := fun _ => rfl) hr0) hc0 (Kd.C_of_reads (d := (0 : Int)) (h1 := fun _ => rfl) hr1) hc1 (Kd.C_of_reads (d := (0 : Int)) (h1 := fun _ => rfl) hr2) hc2 h).mono ?_
  rintro e w' ⟨rfl, hd⟩
  exact ⟨rfl, hd⟩

end Go.Proofs.Ytohkjfdcmiiehaa.P
