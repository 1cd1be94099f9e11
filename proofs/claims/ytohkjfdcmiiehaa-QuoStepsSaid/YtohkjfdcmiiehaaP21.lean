/- What the Go functions of these names come to, as plain Lean functions, and the walks that show it. Written for this claim by a turned copy of the print program; Lean checks it. -/
import Derived.Test.YtohkjfdcmiiehaaP0
import Derived.Test.YtohkjfdcmiiehaaP2
import Derived.Test.YtohkjfdcmiiehaaP3
import Derived.Test.YtohkjfdcmiiehaaP4
import Derived.Test.YtohkjfdcmiiehaaP11
import Derived.Test.YtohkjfdcmiiehaaP15
namespace Go.Proofs.Ytohkjfdcmiiehaa.P
open Go.RowKit Go.Proofs.YtohkjfdcmiiehaaW.PrintWords Go.Proofs.YtohkjfdcmiiehaaW.PrintLast Go.Proofs.YtohkjfdcmiiehaaW.PrintMore
attribute [local go_sem] max2_int min2_int max_two min_two max_three min_three max_four min_four   -- for this text's walks alone
set_option linter.unusedVariables false
set_option linter.unusedSimpArgs false

/-! ### astrolabelaw03_QuoSteps: function 8 -/
mutual
def astrolabelaw03_QuoSteps.j0 : Nat → List Int → List Int → List Int → Int → Bool → Option (Bool)
  | 0, _, _, _, _, _ => none
  | k + 1, x0, x1, x2, x3, x9 => (nat_Shl.f k (([1] : List Int)) (Int.tmod x3 601)).bind fun bt767 => ((quo_DivMod.f k x0 bt767.1).bind fun bt771 => ((nat_Shr.f k x0 (Int.tmod x3 601)).bind fun t778 => ((astrolabelaw03_digits.f k bt771.1 t778).bind fun t781 => ((nat_Bits.f k x1).bind fun t782 => (if t782 = 0 then (astrolabelaw03_QuoSteps.j1 k x0 x1 x2 x9 bt767.2 bt771.2.2 t781 true) else ((nat_Bits.f k x2).bind fun t783 => (astrolabelaw03_QuoSteps.j1 k x0 x1 x2 x9 bt767.2 bt771.2.2 t781 (t783 == 0))))))))
def astrolabelaw03_QuoSteps.j1 : Nat → List Int → List Int → List Int → Bool → Bool → Bool → Bool → Bool → Option (Bool)
  | 0, _, _, _, _, _, _, _, _ => none
  | k + 1, x0, x1, x2, x9, x11, x14, x15, x76 => if x76 = true then (if x9 = true then (if x11 = true then (if x14 = true then (some x15) else (none)) else (none)) else (none)) else ((quo_DivMod.f k x0 x1).bind fun bt784 => ((quo_DivMod.f k bt784.1 x2).bind fun bt791 => ((nat_Mul.f k x1 x2).bind fun t798 => ((quo_DivMod.f k x0 t798).bind fun bt801 => ((astrolabelaw03_digits.f k bt791.1 bt801.1).bind fun t808 => (if x9 = true then (if x11 = true then (if x14 = true then (if x15 = true then (if bt784.2.2 = true then (if bt791.2.2 = true then (if bt801.2.2 = true then (some t808) else (none)) else (none)) else (none)) else (none)) else (none)) else (none)) else (none)))))))
end
def astrolabelaw03_QuoSteps.f (k : Nat) (l0 : List Int) (l1 : List Int) (l2 : List Int) (a3 : Int) : Option (Bool) := (astrolabelaw03_examples.f k).bind fun t760 => (if t760 = true then (if 0 ≤ (mn (l0.length : Int) 20) then (if (mn (l0.length : Int) 20) ≤ (l0.length : Int) then (if 0 ≤ (mn (l1.length : Int) 20) then (if (mn (l1.length : Int) 20) ≤ (l1.length : Int) then (if 0 ≤ (mn (l2.length : Int) 20) then (if (mn (l2.length : Int) 20) ≤ (l2.length : Int) then (if a3 < 0 then (astrolabelaw03_QuoSteps.j0 k (l0.take ((mn (l0.length : Int) 20) : Int).toNat) (l1.take ((mn (l1.length : Int) 20) : Int).toNat) (l2.take ((mn (l2.length : Int) 20) : Int).toNat) (wrap64 (-(wrap64 (a3 + 1)))) t760) else (astrolabelaw03_QuoSteps.j0 k (l0.take ((mn (l0.length : Int) 20) : Int).toNat) (l1.take ((mn (l1.length : Int) 20) : Int).toNat) (l2.take ((mn (l2.length : Int) 20) : Int).toNat) a3 t760)) else (none)) else (none)) else (none)) else (none)) else (none)) else (none)) else (none))
theorem astrolabelaw03_QuoSteps.mono_l : ∀ k, (∀ y0 y1 y2 y3 y4, LeO (astrolabelaw03_QuoSteps.j0 k y0 y1 y2 y3 y4) (astrolabelaw03_QuoSteps.j0 (k + 1) y0 y1 y2 y3 y4)) ∧ (∀ y0 y1 y2 y3 y4 y5 y6 y7, LeO (astrolabelaw03_QuoSteps.j1 k y0 y1 y2 y3 y4 y5 y6 y7) (astrolabelaw03_QuoSteps.j1 (k + 1) y0 y1 y2 y3 y4 y5 y6 y7))
  | 0 => ⟨fun _ _ _ _ _ r h => by simp [astrolabelaw03_QuoSteps.j0] at h, fun _ _ _ _ _ _ _ _ r h => by simp [astrolabelaw03_QuoSteps.j1] at h⟩
  | k + 1 => by
    obtain ⟨ih0, ih1⟩ := astrolabelaw03_QuoSteps.mono_l k
    refine ⟨?_, ?_⟩
    · intro y0 y1 y2 y3 y4
      unfold astrolabelaw03_QuoSteps.j0
      repeat' first
      | (with_reducible exact ih0 _ _ _ _ _)
      | (with_reducible exact ih1 _ _ _ _ _ _ _ _)
      | (with_reducible exact astrolabelaw03_digits.mono _ _ _)
      | (with_reducible exact astrolabelaw03_examples.mono _)
      | (with_reducible exact nat_Bits.mono _ _)
      | (with_reducible exact nat_Mul.mono _ _ _)
      | (with_reducible exact nat_Shl.mono _ _ _)
      | (with_reducible exact nat_Shr.mono _ _ _)
      | (with_reducible exact quo_DivMod.mono _ _ _)
      | (with_reducible exact LeO.refl _)
      | (with_reducible exact LeO.none _)
      | (with_reducible refine LeO.ite ?_ ?_)
      | (with_reducible refine LeO.bind ?_ (fun _ => ?_))
      | exact ih0 _ _ _ _ _
      | exact ih1 _ _ _ _ _ _ _ _
      | exact astrolabelaw03_digits.mono _ _ _
      | exact astrolabelaw03_examples.mono _
      | exact nat_Bits.mono _ _
      | exact nat_Mul.mono _ _ _
      | exact nat_Shl.mono _ _ _
      | exact nat_Shr.mono _ _ _
      | exact quo_DivMod.mono _ _ _
      | exact LeO.none _
      | refine LeO.ite ?_ ?_
      | refine LeO.bind ?_ (fun _ => ?_)
    · intro y0 y1 y2 y3 y4 y5 y6 y7
      unfold astrolabelaw03_QuoSteps.j1
      repeat' first
      | (with_reducible exact ih0 _ _ _ _ _)
      | (with_reducible exact ih1 _ _ _ _ _ _ _ _)
      | (with_reducible exact astrolabelaw03_digits.mono _ _ _)
      | (with_reducible exact astrolabelaw03_examples.mono _)
      | (with_reducible exact nat_Bits.mono _ _)
      | (with_reducible exact nat_Mul.mono _ _ _)
      | (with_reducible exact nat_Shl.mono _ _ _)
      | (with_reducible exact nat_Shr.mono _ _ _)
      | (with_reducible exact quo_DivMod.mono _ _ _)
      | (with_reducible exact LeO.refl _)
      | (with_reducible exact LeO.none _)
      | (with_reducible refine LeO.ite ?_ ?_)
      | (with_reducible refine LeO.bind ?_ (fun _ => ?_))
      | exact ih0 _ _ _ _ _
      | exact ih1 _ _ _ _ _ _ _ _
      | exact astrolabelaw03_digits.mono _ _ _
      | exact astrolabelaw03_examples.mono _
      | exact nat_Bits.mono _ _
      | exact nat_Mul.mono _ _ _
      | exact nat_Shl.mono _ _ _
      | exact nat_Shr.mono _ _ _
      | exact quo_DivMod.mono _ _ _
      | exact LeO.none _
      | refine LeO.ite ?_ ?_
      | refine LeO.bind ?_ (fun _ => ?_)
theorem astrolabelaw03_QuoSteps.mono : ∀ a0 a1 a2 a3 k, LeO (astrolabelaw03_QuoSteps.f k a0 a1 a2 a3) (astrolabelaw03_QuoSteps.f (k + 1) a0 a1 a2 a3) := by
  intro a0 a1 a2 a3 k
  obtain ⟨ih0, ih1⟩ := astrolabelaw03_QuoSteps.mono_l k
  unfold astrolabelaw03_QuoSteps.f
  repeat' first
      | (with_reducible exact ih0 _ _ _ _ _)
      | (with_reducible exact ih1 _ _ _ _ _ _ _ _)
      | (with_reducible exact astrolabelaw03_digits.mono _ _ _)
      | (with_reducible exact astrolabelaw03_examples.mono _)
      | (with_reducible exact nat_Bits.mono _ _)
      | (with_reducible exact nat_Mul.mono _ _ _)
      | (with_reducible exact nat_Shl.mono _ _ _)
      | (with_reducible exact nat_Shr.mono _ _ _)
      | (with_reducible exact quo_DivMod.mono _ _ _)
      | (with_reducible exact LeO.refl _)
      | (with_reducible exact LeO.none _)
      | (with_reducible refine LeO.ite ?_ ?_)
      | (with_reducible refine LeO.bind ?_ (fun _ => ?_))
      | exact ih0 _ _ _ _ _
      | exact ih1 _ _ _ _ _ _ _ _
      | exact astrolabelaw03_digits.mono _ _ _
      | exact astrolabelaw03_examples.mono _
      | exact nat_Bits.mono _ _
      | exact nat_Mul.mono _ _ _
      | exact nat_Shl.mono _ _ _
      | exact nat_Shr.mono _ _ _
      | exact quo_DivMod.mono _ _ _
      | exact LeO.none _
      | refine LeO.ite ?_ ?_
      | refine LeO.bind ?_ (fun _ => ?_)
set_option maxHeartbeats 8000000 in
set_option maxRecDepth 100000 in
theorem astrolabelaw03_QuoSteps.calls (k : Nat) (A0 : Option Addr) (c0 : Nat) (l0 : List Int) (A1 : Option Addr) (c1 : Nat) (l1 : List Int) (A2 : Option Addr) (c2 : Nat) (l2 : List Int) (a3 : Int) (r : Bool) (w : World) (hr0 : Kd.C (Kd.int .u32) w A0 l0.length l0) (hc0 : l0.length ≤ c0) (hr1 : Kd.C (Kd.int .u32) w A1 l1.length l1) (hc1 : l1.length ≤ c1) (hr2 : Kd.C (Kd.int .u32) w A2 l2.length l2) (hc2 : l2.length ≤ c2) (h : astrolabelaw03_QuoSteps.f k l0 l1 l2 a3 = some r) :
    Calls Try.prog 8 #[.slice A0 l0.length c0, .slice A1 l1.length c1, .slice A2 l2.length c2, .int .i64 a3] w fun e w' => e = .returned (.bool r) ∧ Below w.heap.size w w' := by
  have HR0 := Aside0.mk hr0
  have HC0 := Aside0.mk hc0
  clear hr0 hc0
  have HR1 := Aside0.mk hr1
  have HC1 := Aside0.mk hc1
  clear hr1 hc1
  have HR2 := Aside0.mk hr2
  have HC2 := Aside0.mk hc2
  clear hr2 hc2
  have HB := Aside0.mk (Below.refl w.heap.size w)
  have H : ((astrolabelaw03_examples.f k).bind fun t760 => (if t760 = true then (if 0 ≤ (mn (l0.length : Int) 20) then (if (mn (l0.length : Int) 20) ≤ (l0.length : Int) then (if 0 ≤ (mn (l1.length : Int) 20) then (if (mn (l1.length : Int) 20) ≤ (l1.length : Int) then (if 0 ≤ (mn (l2.length : Int) 20) then (if (mn (l2.length : Int) 20) ≤ (l2.length : Int) then (if a3 < 0 then (astrolabelaw03_QuoSteps.j0 k (l0.take ((mn (l0.length : Int) 20) : Int).toNat) (l1.take ((mn (l1.length : Int) 20) : Int).toNat) (l2.take ((mn (l2.length : Int) 20) : Int).toNat) (wrap64 (-(wrap64 (a3 + 1)))) t760) else (astrolabelaw03_QuoSteps.j0 k (l0.take ((mn (l0.length : Int) 20) : Int).toNat) (l1.take ((mn (l1.length : Int) 20) : Int).toNat) (l2.take ((mn (l2.length : Int) 20) : Int).toNat) a3 t760)) else (none)) else (none)) else (none)) else (none)) else (none)) else (none)) else (none))) = some r := h
  clear h
  replace H := Option.bind_eq_some_iff.mp H
  obtain ⟨t760, A50, H⟩ := H
  replace H : (if t760 = true then (if 0 ≤ (mn (l0.length : Int) 20) then (if (mn (l0.length : Int) 20) ≤ (l0.length : Int) then (if 0 ≤ (mn (l1.length : Int) 20) then (if (mn (l1.length : Int) 20) ≤ (l1.length : Int) then (if 0 ≤ (mn (l2.length : Int) 20) then (if (mn (l2.length : Int) 20) ≤ (l2.length : Int) then (if a3 < 0 then (astrolabelaw03_QuoSteps.j0 k (l0.take ((mn (l0.length : Int) 20) : Int).toNat) (l1.take ((mn (l1.length : Int) 20) : Int).toNat) (l2.take ((mn (l2.length : Int) 20) : Int).toNat) (wrap64 (-(wrap64 (a3 + 1)))) t760) else (astrolabelaw03_QuoSteps.j0 k (l0.take ((mn (l0.length : Int) 20) : Int).toNat) (l1.take ((mn (l1.length : Int) 20) : Int).toNat) (l2.take ((mn (l2.length : Int) 20) : Int).toNat) a3 t760)) else (none)) else (none)) else (none)) else (none)) else (none)) else (none)) else (none)) = some r := H
  have A5 := Aside0.mk A50
  clear A50
  by_cases c6 : t760 = true
  · subst c6
    have H1 : (if 0 ≤ (mn (l0.length : Int) 20) then (if (mn (l0.length : Int) 20) ≤ (l0.length : Int) then (if 0 ≤ (mn (l1.length : Int) 20) then (if (mn (l1.length : Int) 20) ≤ (l1.length : Int) then (if 0 ≤ (mn (l2.length : Int) 20) then (if (mn (l2.length : Int) 20) ≤ (l2.length : Int) then (if a3 < 0 then (astrolabelaw03_QuoSteps.j0 k (l0.take ((mn (l0.length : Int) 20) : Int).toNat) (l1.take ((mn (l1.length : Int) 20) : Int).toNat) (l2.take ((mn (l2.length : Int) 20) : Int).toNat) (wrap64 (-(wrap64 (a3 + 1)))) true) else (astrolabelaw03_QuoSteps.j0 k (l0.take ((mn (l0.length : Int) 20) : Int).toNat) (l1.take ((mn (l1.length : Int) 20) : Int).toNat) (l2.take ((mn (l2.length : Int) 20) : Int).toNat) a3 true)) else (none)) else (none)) else (none)) else (none)) else (none)) else (none)) = some r := by rw [if_pos rfl] at H; exact H
    clear H
    have H := H1
    clear H1
    obtain ⟨ji7, hji7⟩ : ∃ j_ : Int, (mn (l0.length : Int) 20) = j_ := ⟨_, rfl⟩
    replace H : (if 0 ≤ (ji7) then (if (ji7) ≤ (l0.length : Int) then (if 0 ≤ (mn (l1.length : Int) 20) then (if (mn (l1.length : Int) 20) ≤ (l1.length : Int) then (if 0 ≤ (mn (l2.length : Int) 20) then (if (mn (l2.length : Int) 20) ≤ (l2.length : Int) then (if a3 < 0 then (astrolabelaw03_QuoSteps.j0 k (l0.take ((ji7) : Int).toNat) (l1.take ((mn (l1.length : Int) 20) : Int).toNat) (l2.take ((mn (l2.length : Int) 20) : Int).toNat) (wrap64 (-(wrap64 (a3 + 1)))) true) else (astrolabelaw03_QuoSteps.j0 k (l0.take ((ji7) : Int).toNat) (l1.take ((mn (l1.length : Int) 20) : Int).toNat) (l2.take ((mn (l2.length : Int) 20) : Int).toNat) a3 true)) else (none)) else (none)) else (none)) else (none)) else (none)) else (none)) = some r := by first | (rw [hji7] at H; exact H) | (simp only [hji7] at H ⊢; exact H)
    (try rw [hji7] at A5)
    (try (have hji7h : ji7 ≤ 20 := by (rw [← hji7]; unfold mn; (repeat' split) <;> omega)))
    (try (have hji7g : ji7 ≤ 64 := by omega))
    (try (have hji7l : 0 ≤ ji7 := by (rw [← hji7]; unfold mn; (repeat' split) <;> omega)))
    (try (have hji7m : 0 ≤ ji7 := by omega))
    have hji7_ : (if 20 < (l0.length : Int) then 20 else (l0.length : Int)) = ji7 := hji7
    by_cases c8 : 0 ≤ (ji7)
    case neg => rw [if_neg c8] at H; exact absurd H (by simp)
    rw [if_pos c8] at H
    have c8b0 := eq_true c8
    have c8b1 : decide (0 ≤ (ji7)) = true := decide_eq_true c8
    clear c8
    by_cases c9 : (ji7) ≤ (l0.length : Int)
    case neg => rw [if_neg c9] at H; exact absurd H (by simp)
    rw [if_pos c9] at H
    have c9b0 := eq_true c9
    have c9b1 : decide ((ji7) ≤ (l0.length : Int)) = true := decide_eq_true c9
    clear c9
    obtain ⟨ji10, hji10⟩ : ∃ j_ : Int, (mn (l1.length : Int) 20) = j_ := ⟨_, rfl⟩
    replace H : (if 0 ≤ (ji10) then (if (ji10) ≤ (l1.length : Int) then (if 0 ≤ (mn (l2.length : Int) 20) then (if (mn (l2.length : Int) 20) ≤ (l2.length : Int) then (if a3 < 0 then (astrolabelaw03_QuoSteps.j0 k (l0.take ((ji7) : Int).toNat) (l1.take ((ji10) : Int).toNat) (l2.take ((mn (l2.length : Int) 20) : Int).toNat) (wrap64 (-(wrap64 (a3 + 1)))) true) else (astrolabelaw03_QuoSteps.j0 k (l0.take ((ji7) : Int).toNat) (l1.take ((ji10) : Int).toNat) (l2.take ((mn (l2.length : Int) 20) : Int).toNat) a3 true)) else (none)) else (none)) else (none)) else (none)) = some r := by first | (rw [hji10] at H; exact H) | (simp only [hji10] at H ⊢; exact H)
    (try rw [hji10] at A5)
    (try (have hji10h : ji10 ≤ 20 := by (rw [← hji10]; unfold mn; (repeat' split) <;> omega)))
    (try (have hji10g : ji10 ≤ 64 := by omega))
    (try (have hji10l : 0 ≤ ji10 := by (rw [← hji10]; unfold mn; (repeat' split) <;> omega)))
    (try (have hji10m : 0 ≤ ji10 := by omega))
    have hji10_ : (if 20 < (l1.length : Int) then 20 else (l1.length : Int)) = ji10 := hji10
    by_cases c11 : 0 ≤ (ji10)
    case neg => rw [if_neg c11] at H; exact absurd H (by simp)
    rw [if_pos c11] at H
    have c11b0 := eq_true c11
    have c11b1 : decide (0 ≤ (ji10)) = true := decide_eq_true c11
    clear c11
    by_cases c12 : (ji10) ≤ (l1.length : Int)
    case neg => rw [if_neg c12] at H; exact absurd H (by simp)
    rw [if_pos c12] at H
    have c12b0 := eq_true c12
    have c12b1 : decide ((ji10) ≤ (l1.length : Int)) = true := decide_eq_true c12
    clear c12
    obtain ⟨ji13, hji13⟩ : ∃ j_ : Int, (mn (l2.length : Int) 20) = j_ := ⟨_, rfl⟩
    replace H : (if 0 ≤ (ji13) then (if (ji13) ≤ (l2.length : Int) then (if a3 < 0 then (astrolabelaw03_QuoSteps.j0 k (l0.take ((ji7) : Int).toNat) (l1.take ((ji10) : Int).toNat) (l2.take ((ji13) : Int).toNat) (wrap64 (-(wrap64 (a3 + 1)))) true) else (astrolabelaw03_QuoSteps.j0 k (l0.take ((ji7) : Int).toNat) (l1.take ((ji10) : Int).toNat) (l2.take ((ji13) : Int).toNat) a3 true)) else (none)) else (none)) = some r := by first | (rw [hji13] at H; exact H) | (simp only [hji13] at H ⊢; exact H)
    (try rw [hji13] at A5)
    (try (have hji13h : ji13 ≤ 20 := by (rw [← hji13]; unfold mn; (repeat' split) <;> omega)))
    (try (have hji13g : ji13 ≤ 64 := by omega))
    (try (have hji13l : 0 ≤ ji13 := by (rw [← hji13]; unfold mn; (repeat' split) <;> omega)))
    (try (have hji13m : 0 ≤ ji13 := by omega))
    have hji13_ : (if 20 < (l2.length : Int) then 20 else (l2.length : Int)) = ji13 := hji13
    by_cases c14 : 0 ≤ (ji13)
    case neg => rw [if_neg c14] at H; exact absurd H (by simp)
    rw [if_pos c14] at H
    have c14b0 := eq_true c14
    have c14b1 : decide (0 ≤ (ji13)) = true := decide_eq_true c14
    clear c14
    by_cases c15 : (ji13) ≤ (l2.length : Int)
    case neg => rw [if_neg c15] at H; exact absurd H (by simp)
    rw [if_pos c15] at H
    have c15b0 := eq_true c15
    have c15b1 : decide ((ji13) ≤ (l2.length : Int)) = true := decide_eq_true c15
    clear c15
    have HC16 := Aside0.mk H
    clear H
    go_enter Try.func8, Try.ntmps8
    go_upto_if 45 with (first | ((with_reducible refine gate_callee (f := 11) rfl ?_); refine goesM_ (some 26) Try.func11 #[] rfl ?_; (with_reducible refine (astrolabelaw03_examples.calls k  true _ A5.out).mono ?_); rintro e w17 ⟨rfl, hb⟩; refine ⟨_, rfl, ?_⟩; have n0_ := Aside0.mk (below_step bl_ hb); clear HB; have HB := n0_; clear n0_; (try clear hb); (try clear hb2); (try clear hk); (try clear hi); obtain ⟨i018, hi018, _, hsz18, _⟩ := info_parts info37; obtain ⟨hcut18, hA18, hC18⟩ := print_take_of (P := Try.prog) (Value.int .u32) 0 22 37 .i64 Try.underlying22 hi018 hsz18 A0 c0 l0 (ji7) od_ od_ HC0.out; have HR761 := Aside0.mk (Kd.C_of_reads (h1 := fun _ => rfl) (hA18 _ (Kd.reads_of_C HR0.out))); have HC761 := Aside0.mk hC18; clear hA18 hC18 hi018 hsz18; obtain ⟨i019, hi019, _, hsz19, _⟩ := info_parts info37; obtain ⟨hcut19, hA19, hC19⟩ := print_take_of (P := Try.prog) (Value.int .u32) 0 22 37 .i64 Try.underlying22 hi019 hsz19 A1 c1 l1 (ji10) od_ od_ HC1.out; have HR762 := Aside0.mk (Kd.C_of_reads (h1 := fun _ => rfl) (hA19 _ (Kd.reads_of_C HR1.out))); have HC762 := Aside0.mk hC19; clear hA19 hC19 hi019 hsz19; obtain ⟨i020, hi020, _, hsz20, _⟩ := info_parts info37; obtain ⟨hcut20, hA20, hC20⟩ := print_take_of (P := Try.prog) (Value.int .u32) 0 22 37 .i64 Try.underlying22 hi020 hsz20 A2 c2 l2 (ji13) od_ od_ HC2.out; have HR763 := Aside0.mk (Kd.C_of_reads (h1 := fun _ => rfl) (hA20 _ (Kd.reads_of_C HR2.out))); have HC763 := Aside0.mk hC20; clear hA20 hC20 hi020 hsz20))
    (try simp only [Act.put, List.setIfInBounds_toArray, List.set_cons_zero, List.set_cons_succ])
    go_cut [3] (fun v3 wc => ∃ (kq : Nat) (x3_15 : Int), v3 = .int .i64 x3_15 ∧ Aside0 (astrolabelaw03_QuoSteps.j0 kq (l0.take ((ji7) : Int).toNat) (l1.take ((ji10) : Int).toNat) (l2.take ((ji13) : Int).toNat) x3_15 true = some r) ∧ Aside0 (kq ≤ k) ∧ Aside0 (Below w.heap.size w wc))
    case first =>
      have H := HC16.out
      clear HC16
      by_cases c21 : a3 < 0
      · rw [if_pos c21] at H
        have c21b0 : decide (a3 < 0) = true := decide_eq_true c21
        clear c21
        (first | rw [c21b0] | (simp only [i64_w, i32_w]; rw [c21b0]) | rw [c21b1] | skip)
        have H' := Aside0.mk H
        clear H
        go_wp2
        go_meet
        case rel => exact ⟨_, (wrap64 (-(wrap64 (a3 + 1)))), rs_, H', ⟨by first | omega | exact Nat.le_refl _⟩, ⟨bl_⟩⟩
      · rw [if_neg c21] at H
        have c21b0 : decide (a3 < 0) = false := decide_eq_false c21
        clear c21
        (first | rw [c21b0] | (simp only [i64_w, i32_w]; rw [c21b0]) | rw [c21b1] | skip)
        have H' := Aside0.mk H
        clear H
        go_wp2
        go_meet
        case rel => exact ⟨_, (a3), rs_, H', ⟨by first | omega | exact Nat.le_refl _⟩, ⟨bl_⟩⟩
    case rest =>
      clear HC16
      (try clear c1); (try clear c2); (try clear p2); (try clear c6); (try clear p6); (try clear c8); (try clear c8b0); (try clear c8b1); (try clear c9); (try clear c9b0); (try clear c9b1); (try clear c11); (try clear c11b0); (try clear c11b1); (try clear c12); (try clear c12b0); (try clear c12b1); (try clear c14); (try clear c14b0); (try clear c14b1); (try clear c15); (try clear c15b0); (try clear c15b1)
      (try clear c21); (try clear c21b0); (try clear c21b1)
      obtain ⟨kq, x3_15, rfl, HA, HJ15, HB⟩ := hcut
      cases kq with
      | zero => exact absurd HA.out (by simp [astrolabelaw03_QuoSteps.j0])
      | succ kj15 =>
        have H := HA.out
        clear HA
        simp only [astrolabelaw03_QuoSteps.j0] at H
        obtain ⟨y764, hy764⟩ : ∃ y_ : List Int, y_ = (([1] : List Int)) := ⟨_, rfl⟩
        replace H : ((nat_Shl.f kj15 y764 (Int.tmod x3_15 601)).bind fun bt767 => ((quo_DivMod.f kj15 (l0.take ((ji7) : Int).toNat) bt767.1).bind fun bt771 => ((nat_Shr.f kj15 (l0.take ((ji7) : Int).toNat) (Int.tmod x3_15 601)).bind fun t778 => ((astrolabelaw03_digits.f kj15 bt771.1 t778).bind fun t781 => ((nat_Bits.f kj15 (l1.take ((ji10) : Int).toNat)).bind fun t782 => (if t782 = 0 then (astrolabelaw03_QuoSteps.j1 kj15 (l0.take ((ji7) : Int).toNat) (l1.take ((ji10) : Int).toNat) (l2.take ((ji13) : Int).toNat) true bt767.2 bt771.2.2 t781 true) else ((nat_Bits.f kj15 (l2.take ((ji13) : Int).toNat)).bind fun t783 => (astrolabelaw03_QuoSteps.j1 kj15 (l0.take ((ji7) : Int).toNat) (l1.take ((ji10) : Int).toNat) (l2.take ((ji13) : Int).toNat) true bt767.2 bt771.2.2 t781 (t783 == 0))))))))) = some r := by first | (rw [hy764]; with_reducible exact H) | (have H2_ := (Option.bind_some _ _).symm.trans H; rw [hy764]; with_reducible exact H2_) | (have H2_ := (Option.bind_some _ _).symm.trans H; with_reducible exact H2_) | with_reducible exact H | (rw [hy764]; exact H) | exact H
        have Ny764 := Aside0.mk hy764
        clear hy764
        replace H := Option.bind_eq_some_iff.mp H
        obtain ⟨⟨t767, t770⟩, A220, H⟩ := H
        replace H : ((quo_DivMod.f kj15 (l0.take ((ji7) : Int).toNat) t767).bind fun bt771 => ((nat_Shr.f kj15 (l0.take ((ji7) : Int).toNat) (Int.tmod x3_15 601)).bind fun t778 => ((astrolabelaw03_digits.f kj15 bt771.1 t778).bind fun t781 => ((nat_Bits.f kj15 (l1.take ((ji10) : Int).toNat)).bind fun t782 => (if t782 = 0 then (astrolabelaw03_QuoSteps.j1 kj15 (l0.take ((ji7) : Int).toNat) (l1.take ((ji10) : Int).toNat) (l2.take ((ji13) : Int).toNat) true t770 bt771.2.2 t781 true) else ((nat_Bits.f kj15 (l2.take ((ji13) : Int).toNat)).bind fun t783 => (astrolabelaw03_QuoSteps.j1 kj15 (l0.take ((ji7) : Int).toNat) (l1.take ((ji10) : Int).toNat) (l2.take ((ji13) : Int).toNat) true t770 bt771.2.2 t781 (t783 == 0)))))))) = some r := H
        have A22 := Aside0.mk A220
        clear A220
        replace H := Option.bind_eq_some_iff.mp H
        obtain ⟨⟨t771, t774, t777⟩, A230, H⟩ := H
        replace H : ((nat_Shr.f kj15 (l0.take ((ji7) : Int).toNat) (Int.tmod x3_15 601)).bind fun t778 => ((astrolabelaw03_digits.f kj15 t771 t778).bind fun t781 => ((nat_Bits.f kj15 (l1.take ((ji10) : Int).toNat)).bind fun t782 => (if t782 = 0 then (astrolabelaw03_QuoSteps.j1 kj15 (l0.take ((ji7) : Int).toNat) (l1.take ((ji10) : Int).toNat) (l2.take ((ji13) : Int).toNat) true t770 t777 t781 true) else ((nat_Bits.f kj15 (l2.take ((ji13) : Int).toNat)).bind fun t783 => (astrolabelaw03_QuoSteps.j1 kj15 (l0.take ((ji7) : Int).toNat) (l1.take ((ji10) : Int).toNat) (l2.take ((ji13) : Int).toNat) true t770 t777 t781 (t783 == 0))))))) = some r := H
        have A23 := Aside0.mk A230
        clear A230
        replace H := Option.bind_eq_some_iff.mp H
        obtain ⟨t778, A240, H⟩ := H
        replace H : ((astrolabelaw03_digits.f kj15 t771 t778).bind fun t781 => ((nat_Bits.f kj15 (l1.take ((ji10) : Int).toNat)).bind fun t782 => (if t782 = 0 then (astrolabelaw03_QuoSteps.j1 kj15 (l0.take ((ji7) : Int).toNat) (l1.take ((ji10) : Int).toNat) (l2.take ((ji13) : Int).toNat) true t770 t777 t781 true) else ((nat_Bits.f kj15 (l2.take ((ji13) : Int).toNat)).bind fun t783 => (astrolabelaw03_QuoSteps.j1 kj15 (l0.take ((ji7) : Int).toNat) (l1.take ((ji10) : Int).toNat) (l2.take ((ji13) : Int).toNat) true t770 t777 t781 (t783 == 0)))))) = some r := H
        have A24 := Aside0.mk A240
        clear A240
        replace H := Option.bind_eq_some_iff.mp H
        obtain ⟨t781, A250, H⟩ := H
        replace H : ((nat_Bits.f kj15 (l1.take ((ji10) : Int).toNat)).bind fun t782 => (if t782 = 0 then (astrolabelaw03_QuoSteps.j1 kj15 (l0.take ((ji7) : Int).toNat) (l1.take ((ji10) : Int).toNat) (l2.take ((ji13) : Int).toNat) true t770 t777 t781 true) else ((nat_Bits.f kj15 (l2.take ((ji13) : Int).toNat)).bind fun t783 => (astrolabelaw03_QuoSteps.j1 kj15 (l0.take ((ji7) : Int).toNat) (l1.take ((ji10) : Int).toNat) (l2.take ((ji13) : Int).toNat) true t770 t777 t781 (t783 == 0))))) = some r := H
        have A25 := Aside0.mk A250
        clear A250
        have HC26 := Aside0.mk H
        clear H
        go_upto_region 13 with (first | ((with_reducible refine gate_dst (N := 52) rfl ?_); refine Kd.R_lit (Kd.int .u32) _ 37 ?hg (N := 52) ?hd (xs := ([1] : List Int)) (inner := [.int .u32 1]) (ok := fun _ => True) (okp := fun _ => True) ?hr ?hp (fun _ hk => hk) trivial (Below.refl _ _) (Nat.le_refl _) (by simp) ?_; (case hd => rfl); (case hg => rfl); (case hr => first | (go_simp; done) | (go_simp; rfl)); (case hp => exact (Reps.one (show Kd.M (Kd.int .u32) _ _ _ 1 [.int .u32 1] from rfl) (Reps.none _ _))); intro v765 w27 ho28 hb hg_ hnew_; clear hg_ hnew_; (first | rw [← Ny764.out] at ho28 | (simp only [Int.reduceToNat] at ho28; rw [← Ny764.out] at ho28)); have n0_ := Aside0.mk (Kd.R_lower ho28 (below_size bl_)); have n1_ := Aside0.mk (below_step bl_ hb); clear HB; have HO766 := n0_; have HB := n1_; clear n0_ n1_; clear hb ho28; obtain ⟨Ao29, co29, eo29⟩ := Kd.R_slice HO766.out; subst eo29) | ((with_reducible refine gate_callee (f := 24) rfl ?_); refine goesM_ (some 54) Try.func24 #[.slice Ao29 y764.length co29, .int .i64 (Int.tmod x3_15 601)] rfl ?_; (with_reducible refine (nat_Shl.calls kj15 (fun k_ => some k_ = (.slice Ao29 y764.length co29 : Value).ownBlock) _ _ y764 (Int.tmod x3_15 601) t767 t770 _ ?side1 A22.out).mono ?_); (case side1 => exact Kd.R_V (Kd.R_tight rfl (HO766.out))); rintro e w30 ⟨v768, rfl, ho0, hb⟩; refine ⟨_, rfl, ?_⟩; have n0_ := Aside0.mk (Kd.R_below (mvR HO766.out) hb); have n1_ := Aside0.mk (Kd.V_lower (Kd.V_mono (ok' := fun k_ => True) ho0 (fun k_ hk_ => trivial)) (below_size bl_)); have n2_ := Aside0.mk (below_step bl_ hb); clear HO766; clear HB; have HO766 := n0_; have HO769 := n1_; have HB := n2_; clear n0_ n1_ n2_; (try clear hb); (try clear hb2); (try clear hk); (try clear hi); (try clear ho0); obtain ⟨Ao31, co31, eo31⟩ := Kd.V_slice HO769.out; subst eo31) | ((with_reducible refine gate_callee (f := 12) rfl ?_); refine goesM_ (some 60) Try.func12 #[.slice A0 (l0.take ((ji7) : Int).toNat).length c0, .slice Ao31 t767.length co31] rfl ?_ (by (try simp only [List.map_toArray, List.map_cons, List.map_nil]); first | done | (rw [show (l0.take ((ji7) : Int).toNat).length = (ji7).toNat from (by rw [List.length_take]; have h_ : ((ji7) : Int) ≤ (l0.length : Int) := (by first | exact od_ | (rw [← hji7]; unfold mn; split <;> omega)); omega)] <;> rfl) | (simp only [hji7]; rfl) | rfl | (simp only [List.length_drop, List.length_take]; rfl)); (with_reducible refine (quo_DivMod.calls kj15 _ _ (l0.take ((ji7) : Int).toNat) _ _ t767 t771 t774 t777 _ ?side1 ?side2 ?side3 ?side4 A23.out).mono ?_); (case side1 => repeat (first | exact (Kd.C_below HR761.out HB.out) | (with_reducible refine Kd.C_alloc ?_ _) | (with_reducible refine Kd.C_drewN ?_ _) | (with_reducible refine Kd.C_drew ?_))); (case side2 => exact HC761.out); (case side3 => repeat (first | exact (Kd.V_reads' HO769.out).2.2 | (with_reducible refine Kd.C_alloc ?_ _) | (with_reducible refine Kd.C_drewN ?_ _) | (with_reducible refine Kd.C_drew ?_))); (case side4 => exact (Kd.V_reads' HO769.out).2.1); rintro e w32 ⟨v772, v775, rfl, ho0, ho1, hb⟩; refine ⟨_, rfl, ?_⟩; have n0_ := Aside0.mk (Kd.R_elder' (mvR HO766.out) (Kd.R_base ho0) hb); have n1_ := Aside0.mk (Kd.V_elder' (mvV HO769.out) (Kd.R_base ho0) hb); have n2_ := Aside0.mk (Kd.R_lower (Kd.R_new' (Kd.R_mono (ok' := fun k_ => True) ho0 (fun _ hk_ => trivial)) (Kd.R_lt (mvR HO766.out))) (below_size bl_)); have n3_ := Aside0.mk (Kd.V_lower (Kd.V_mono (ok' := fun k_ => some k_ ≠ (v772 : Value).ownBlock ∧ some k_ ≠ (.slice Ao29 y764.length co29 : Value).ownBlock) ho1 (fun k_ hk_ => ⟨hk_.2, (Kd.fresh' (Kd.R_lt (mvR HO766.out)) k_ hk_.1)⟩)) (below_size bl_)); have n4_ := Aside0.mk (below_step bl_ hb); clear HO766; clear HO769; clear HB; have HO766 := n0_; have HO769 := n1_; have HO773 := n2_; have HO776 := n3_; have HB := n4_; clear n0_ n1_ n2_ n3_ n4_; (try clear hb); (try clear hb2); (try clear hk); (try clear hi); (try clear ho0); (try clear ho1)) | ((with_reducible refine gate_callee (f := 25) rfl ?_); refine goesM_ (some 67) Try.func25 #[.slice A0 (l0.take ((ji7) : Int).toNat).length c0, .int .i64 (Int.tmod x3_15 601)] rfl ?_ (by (try simp only [List.map_toArray, List.map_cons, List.map_nil]); first | done | (rw [show (l0.take ((ji7) : Int).toNat).length = (ji7).toNat from (by rw [List.length_take]; have h_ : ((ji7) : Int) ≤ (l0.length : Int) := (by first | exact od_ | (rw [← hji7]; unfold mn; split <;> omega)); omega)] <;> rfl) | (simp only [hji7]; rfl) | rfl | (simp only [List.length_drop, List.length_take]; rfl)); (with_reducible refine (nat_Shr.calls kj15 (fun k_ => k_ < w.heap.size) _ _ (l0.take ((ji7) : Int).toNat) (Int.tmod x3_15 601) t778 _ ?side1 A24.out).mono ?_); (case side1 => exact Kd.V_mk HC761.out (Kd.F_below (Kd.C_F (Kd.heap_int .u32) HR761.out) bl_)); rintro e w33 ⟨v779, rfl, ho0, hb⟩; refine ⟨_, rfl, ?_⟩; have n0_ := Aside0.mk (Kd.R_below (mvR HO766.out) hb); have n1_ := Aside0.mk (Kd.V_below (mvV HO769.out) hb); have n2_ := Aside0.mk (Kd.R_below (mvR HO773.out) hb); have n3_ := Aside0.mk (Kd.V_below (mvV HO776.out) hb); have n4_ := Aside0.mk (Kd.V_lower (Kd.V_mono (ok' := fun k_ => some k_ ≠ (.slice Ao29 y764.length co29 : Value).ownBlock ∧ some k_ ≠ (v772 : Value).ownBlock) ho0 (fun k_ hk_ => ⟨Or.elim hk_ (fun hs_ => fun e_ => Nat.not_le.2 hs_ (Kd.R_base HO766.out k_ e_.symm)) (fun hn_ => (Kd.fresh' (Kd.R_lt (mvR HO766.out)) k_ hn_)), Or.elim hk_ (fun hs_ => fun e_ => Nat.not_le.2 hs_ (Kd.R_base HO773.out k_ e_.symm)) (fun hn_ => (Kd.fresh' (Kd.R_lt (mvR HO773.out)) k_ hn_))⟩)) (below_size bl_)); have n5_ := Aside0.mk (below_step bl_ hb); clear HO766; clear HO769; clear HO773; clear HO776; clear HB; have HO766 := n0_; have HO769 := n1_; have HO773 := n2_; have HO776 := n3_; have HO780 := n4_; have HB := n5_; clear n0_ n1_ n2_ n3_ n4_ n5_; (try clear hb); (try clear hb2); (try clear hk); (try clear hi); (try clear ho0); obtain ⟨Ao34, co34, eo34⟩ := Kd.R_slice HO773.out; subst eo34; obtain ⟨Ao35, co35, eo35⟩ := Kd.V_slice HO780.out; subst eo35) | ((with_reducible refine gate_callee (f := 14) rfl ?_); refine goesM_ (some 68) Try.func14 #[.slice Ao34 t771.length co34, .slice Ao35 t778.length co35] rfl ?_; (with_reducible refine (astrolabelaw03_digits.calls kj15 _ _ t771 _ _ t778 t781 _ ?side1 ?side2 ?side3 ?side4 A25.out).mono ?_); (case side1 => repeat (first | exact (Kd.R_reads' HO773.out).2.2 | (with_reducible refine Kd.C_alloc ?_ _) | (with_reducible refine Kd.C_drewN ?_ _) | (with_reducible refine Kd.C_drew ?_))); (case side2 => exact (Kd.R_reads' HO773.out).2.1); (case side3 => repeat (first | exact (Kd.V_reads' HO780.out).2.2 | (with_reducible refine Kd.C_alloc ?_ _) | (with_reducible refine Kd.C_drewN ?_ _) | (with_reducible refine Kd.C_drew ?_))); (case side4 => exact (Kd.V_reads' HO780.out).2.1); rintro e w' ⟨rfl, ⟨nd, rfl⟩⟩; refine ⟨_, rfl, ?_⟩))
        (try simp only [Act.put, List.setIfInBounds_toArray, List.set_cons_zero, List.set_cons_succ])
        go_cut [76] (fun v76 wc => ∃ (kq : Nat) (x76_25 : Bool), v76 = .bool x76_25 ∧ Aside0 (astrolabelaw03_QuoSteps.j1 kq (l0.take ((ji7) : Int).toNat) (l1.take ((ji10) : Int).toNat) (l2.take ((ji13) : Int).toNat) true t770 t777 t781 x76_25 = some r) ∧ Aside0 (kq ≤ kj15) ∧ Aside0 (Below w.heap.size w wc))
        case first =>
          have H := HC26.out
          clear HC26
          replace H := Option.bind_eq_some_iff.mp H
          obtain ⟨t782, A360, H⟩ := H
          replace H : (if t782 = 0 then (astrolabelaw03_QuoSteps.j1 kj15 (l0.take ((ji7) : Int).toNat) (l1.take ((ji10) : Int).toNat) (l2.take ((ji13) : Int).toNat) true t770 t777 t781 true) else ((nat_Bits.f kj15 (l2.take ((ji13) : Int).toNat)).bind fun t783 => (astrolabelaw03_QuoSteps.j1 kj15 (l0.take ((ji7) : Int).toNat) (l1.take ((ji10) : Int).toNat) (l2.take ((ji13) : Int).toNat) true t770 t777 t781 (t783 == 0)))) = some r := H
          have A36 := Aside0.mk A360
          clear A360
          by_cases c37 : t782 = 0
          · rw [if_pos c37] at H
            have c37b0 : (t782 == 0) = true := beq_iff_eq.mpr c37
            have c37b1 : (t782 != 0) = false := bne_eq_false_iff_eq.mpr c37
            clear c37
            (first | rw [c37b0] | (simp only [i64_w, i32_w]; rw [c37b0]) | rw [c37b1] | skip)
            have H' := Aside0.mk H
            clear H
            go_wp2_with (first | ((with_reducible refine gate_callee (f := 19) rfl ?_); refine goesM_ (some 70) Try.func19 #[.slice A1 (l1.take ((ji10) : Int).toNat).length c1] rfl ?_ (by (try simp only [List.map_toArray, List.map_cons, List.map_nil]); first | done | (rw [show (l1.take ((ji10) : Int).toNat).length = (ji10).toNat from (by rw [List.length_take]; have h_ : ((ji10) : Int) ≤ (l1.length : Int) := (by first | exact od_ | (rw [← hji10]; unfold mn; split <;> omega)); omega)] <;> rfl) | (simp only [hji10]; rfl) | rfl | (simp only [List.length_drop, List.length_take]; rfl)); (with_reducible refine (nat_Bits.calls kj15 _ _ (l1.take ((ji10) : Int).toNat) t782 _ ?side1 ?side2 A36.out).mono ?_); (case side1 => repeat (first | exact (Kd.C_below HR762.out HB.out) | (with_reducible refine Kd.C_alloc ?_ _) | (with_reducible refine Kd.C_drewN ?_ _) | (with_reducible refine Kd.C_drew ?_))); (case side2 => exact HC762.out); rintro e w38 ⟨rfl, hb⟩; refine ⟨_, rfl, ?_⟩; have n0_ := Aside0.mk (Kd.R_below (mvR HO766.out) hb); have n1_ := Aside0.mk (Kd.V_below (mvV HO769.out) hb); have n2_ := Aside0.mk (Kd.R_below (mvR HO773.out) hb); have n3_ := Aside0.mk (Kd.V_below (mvV HO776.out) hb); have n4_ := Aside0.mk (Kd.V_below (mvV HO780.out) hb); have n5_ := Aside0.mk (below_step bl_ hb); clear HO766; clear HO769; clear HO773; clear HO776; clear HO780; clear HB; have HO766 := n0_; have HO769 := n1_; have HO773 := n2_; have HO776 := n3_; have HO780 := n4_; have HB := n5_; clear n0_ n1_ n2_ n3_ n4_ n5_; (try clear hb); (try clear hb2); (try clear hk); (try clear hi)))
            go_meet
            case rel => exact ⟨_, (true), rs_, H', ⟨by have := HJ15.out; first | omega | exact Nat.le_refl _⟩, ⟨bl_⟩⟩
          · rw [if_neg c37] at H
            have c37b0 : (t782 == 0) = false := beq_eq_false_iff_ne.mpr c37
            have c37b1 : (t782 != 0) = true := bne_iff_ne.mpr c37
            (first | rw [c37b0] | (simp only [i64_w, i32_w]; rw [c37b0]) | rw [c37b1] | skip)
            replace H := Option.bind_eq_some_iff.mp H
            obtain ⟨t783, A390, H⟩ := H
            replace H : (astrolabelaw03_QuoSteps.j1 kj15 (l0.take ((ji7) : Int).toNat) (l1.take ((ji10) : Int).toNat) (l2.take ((ji13) : Int).toNat) true t770 t777 t781 (t783 == 0)) = some r := H
            have A39 := Aside0.mk A390
            clear A390
            have H' := Aside0.mk H
            clear H
            go_wp2_with (first | ((with_reducible refine gate_callee (f := 19) rfl ?_); refine goesM_ (some 70) Try.func19 #[.slice A1 (l1.take ((ji10) : Int).toNat).length c1] rfl ?_ (by (try simp only [List.map_toArray, List.map_cons, List.map_nil]); first | done | (rw [show (l1.take ((ji10) : Int).toNat).length = (ji10).toNat from (by rw [List.length_take]; have h_ : ((ji10) : Int) ≤ (l1.length : Int) := (by first | exact od_ | (rw [← hji10]; unfold mn; split <;> omega)); omega)] <;> rfl) | (simp only [hji10]; rfl) | rfl | (simp only [List.length_drop, List.length_take]; rfl)); (with_reducible refine (nat_Bits.calls kj15 _ _ (l1.take ((ji10) : Int).toNat) t782 _ ?side1 ?side2 A36.out).mono ?_); (case side1 => repeat (first | exact (Kd.C_below HR762.out HB.out) | (with_reducible refine Kd.C_alloc ?_ _) | (with_reducible refine Kd.C_drewN ?_ _) | (with_reducible refine Kd.C_drew ?_))); (case side2 => exact HC762.out); rintro e w40 ⟨rfl, hb⟩; refine ⟨_, rfl, ?_⟩; have n0_ := Aside0.mk (Kd.R_below (mvR HO766.out) hb); have n1_ := Aside0.mk (Kd.V_below (mvV HO769.out) hb); have n2_ := Aside0.mk (Kd.R_below (mvR HO773.out) hb); have n3_ := Aside0.mk (Kd.V_below (mvV HO776.out) hb); have n4_ := Aside0.mk (Kd.V_below (mvV HO780.out) hb); have n5_ := Aside0.mk (below_step bl_ hb); clear HO766; clear HO769; clear HO773; clear HO776; clear HO780; clear HB; have HO766 := n0_; have HO769 := n1_; have HO773 := n2_; have HO776 := n3_; have HO780 := n4_; have HB := n5_; clear n0_ n1_ n2_ n3_ n4_ n5_; (try clear hb); (try clear hb2); (try clear hk); (try clear hi)) | (go_at_call 19; refine calls_of_args (args' := #[.slice A2 (l2.take ((ji13) : Int).toNat).length c2]) (by first | (rw [show (l2.take ((ji13) : Int).toNat).length = (ji13).toNat from (by rw [List.length_take]; have h_ : ((ji13) : Int) ≤ (l2.length : Int) := (by first | exact od_ | (rw [← hji13]; unfold mn; split <;> omega)); omega)] <;> rfl) | rfl) ?_; (with_reducible refine (nat_Bits.calls kj15 _ _ (l2.take ((ji13) : Int).toNat) t783 _ ?side1 ?side2 A39.out).mono ?_); (case side1 => repeat (first | exact (Kd.C_below HR763.out HB.out) | (with_reducible refine Kd.C_alloc ?_ _) | (with_reducible refine Kd.C_drewN ?_ _) | (with_reducible refine Kd.C_drew ?_))); (case side2 => exact HC763.out); rintro e w41 ⟨rfl, hb⟩; have n0_ := Aside0.mk (Kd.R_below (mvR HO766.out) hb); have n1_ := Aside0.mk (Kd.V_below (mvV HO769.out) hb); have n2_ := Aside0.mk (Kd.R_below (mvR HO773.out) hb); have n3_ := Aside0.mk (Kd.V_below (mvV HO776.out) hb); have n4_ := Aside0.mk (Kd.V_below (mvV HO780.out) hb); have n5_ := Aside0.mk (below_step bl_ hb); clear HO766; clear HO769; clear HO773; clear HO776; clear HO780; clear HB; have HO766 := n0_; have HO769 := n1_; have HO773 := n2_; have HO776 := n3_; have HO780 := n4_; have HB := n5_; clear n0_ n1_ n2_ n3_ n4_ n5_; (try clear hb); (try clear hb2); (try clear hk); (try clear hi)))
            go_meet
            case rel => exact ⟨_, ((t783 == 0)), rs_, H', ⟨by have := HJ15.out; first | omega | exact Nat.le_refl _⟩, ⟨bl_⟩⟩
        case rest =>
          clear HC26
          (try clear c1); (try clear c2); (try clear p2); (try clear c3); (try clear c6); (try clear p6); (try clear c8); (try clear c8b0); (try clear c8b1); (try clear c9); (try clear c9b0); (try clear c9b1); (try clear c11); (try clear c11b0); (try clear c11b1); (try clear c12); (try clear c12b0); (try clear c12b1); (try clear c14); (try clear c14b0); (try clear c14b1); (try clear c15); (try clear c15b0)
          (try clear c15b1); (try clear c19); (try clear c21); (try clear c21b0); (try clear c21b1); (try clear c24); (try clear c25); (try clear c37); (try clear c37b0); (try clear c37b1); (try clear p2); (try clear p6)
          obtain ⟨kq, x76_25, rfl, HA, HJ25, HB⟩ := hcut
          cases kq with
          | zero => exact absurd HA.out (by simp [astrolabelaw03_QuoSteps.j1])
          | succ kj25 =>
            have H := HA.out
            clear HA
            simp only [astrolabelaw03_QuoSteps.j1] at H
            by_cases c42 : x76_25 = true
            · subst c42
              have H1 : (if true = true then (if t770 = true then (if t777 = true then (some t781) else (none)) else (none)) else (none)) = some r := by rw [if_pos rfl] at H; exact H
              clear H
              have H := H1
              clear H1
              replace H : (if t770 = true then (if t777 = true then (some t781) else (none)) else (none)) = some r := by first | exact H | (rw [if_pos rfl] at H; exact H)
              by_cases c43 : t770 = true
              · subst c43
                have H1 : (if t777 = true then (some t781) else (none)) = some r := by rw [if_pos rfl] at H; exact H
                clear H
                have H := H1
                clear H1
                by_cases c44 : t777 = true
                · subst c44
                  have H1 : (some t781) = some r := by rw [if_pos rfl] at H; exact H
                  clear H
                  have H := H1
                  clear H1
                  obtain rfl := Option.some.inj H
                  go_wp2
                  go_ret
                  exact ⟨by first | rfl | (simp [errW_none, errW_some] <;> rfl) | (simp only [← hji7, ← hji10, ← hji13]; first | rfl | (simp [errW_none, errW_some] <;> rfl)) | (simp [*, errW_none, errW_some] <;> rfl), bl_⟩
                · replace c44 := Bool.eq_false_iff.mpr c44
                  subst c44
                  have H1 : (none) = some r := by rw [if_neg (show ¬ (false = true) by decide)] at H; exact H
                  clear H
                  have H := H1
                  clear H1
                  exact absurd H (by simp)
              · replace c43 := Bool.eq_false_iff.mpr c43
                subst c43
                have H1 : (none) = some r := by rw [if_neg (show ¬ (false = true) by decide)] at H; exact H
                clear H
                have H := H1
                clear H1
                exact absurd H (by simp)
            · replace c42 := Bool.eq_false_iff.mpr c42
              subst c42
              have H1 : ((quo_DivMod.f kj25 (l0.take ((ji7) : Int).toNat) (l1.take ((ji10) : Int).toNat)).bind fun bt784 => ((quo_DivMod.f kj25 bt784.1 (l2.take ((ji13) : Int).toNat)).bind fun bt791 => ((nat_Mul.f kj25 (l1.take ((ji10) : Int).toNat) (l2.take ((ji13) : Int).toNat)).bind fun t798 => ((quo_DivMod.f kj25 (l0.take ((ji7) : Int).toNat) t798).bind fun bt801 => ((astrolabelaw03_digits.f kj25 bt791.1 bt801.1).bind fun t808 => (if true = true then (if t770 = true then (if t777 = true then (if t781 = true then (if bt784.2.2 = true then (if bt791.2.2 = true then (if bt801.2.2 = true then (some t808) else (none)) else (none)) else (none)) else (none)) else (none)) else (none)) else (none))))))) = some r := by rw [if_neg (show ¬ (false = true) by decide)] at H; exact H
              clear H
              have H := H1
              clear H1
              replace H := Option.bind_eq_some_iff.mp H
              obtain ⟨⟨t784, t787, t790⟩, A450, H⟩ := H
              replace H : ((quo_DivMod.f kj25 t784 (l2.take ((ji13) : Int).toNat)).bind fun bt791 => ((nat_Mul.f kj25 (l1.take ((ji10) : Int).toNat) (l2.take ((ji13) : Int).toNat)).bind fun t798 => ((quo_DivMod.f kj25 (l0.take ((ji7) : Int).toNat) t798).bind fun bt801 => ((astrolabelaw03_digits.f kj25 bt791.1 bt801.1).bind fun t808 => (if true = true then (if t770 = true then (if t777 = true then (if t781 = true then (if t790 = true then (if bt791.2.2 = true then (if bt801.2.2 = true then (some t808) else (none)) else (none)) else (none)) else (none)) else (none)) else (none)) else (none)))))) = some r := H
              have A45 := Aside0.mk A450
              clear A450
              replace H := Option.bind_eq_some_iff.mp H
              obtain ⟨⟨t791, t794, t797⟩, A460, H⟩ := H
              replace H : ((nat_Mul.f kj25 (l1.take ((ji10) : Int).toNat) (l2.take ((ji13) : Int).toNat)).bind fun t798 => ((quo_DivMod.f kj25 (l0.take ((ji7) : Int).toNat) t798).bind fun bt801 => ((astrolabelaw03_digits.f kj25 t791 bt801.1).bind fun t808 => (if true = true then (if t770 = true then (if t777 = true then (if t781 = true then (if t790 = true then (if t797 = true then (if bt801.2.2 = true then (some t808) else (none)) else (none)) else (none)) else (none)) else (none)) else (none)) else (none))))) = some r := H
              have A46 := Aside0.mk A460
              clear A460
              replace H := Option.bind_eq_some_iff.mp H
              obtain ⟨t798, A470, H⟩ := H
              replace H : ((quo_DivMod.f kj25 (l0.take ((ji7) : Int).toNat) t798).bind fun bt801 => ((astrolabelaw03_digits.f kj25 t791 bt801.1).bind fun t808 => (if true = true then (if t770 = true then (if t777 = true then (if t781 = true then (if t790 = true then (if t797 = true then (if bt801.2.2 = true then (some t808) else (none)) else (none)) else (none)) else (none)) else (none)) else (none)) else (none)))) = some r := H
              have A47 := Aside0.mk A470
              clear A470
              replace H := Option.bind_eq_some_iff.mp H
              obtain ⟨⟨t801, t804, t807⟩, A480, H⟩ := H
              replace H : ((astrolabelaw03_digits.f kj25 t791 t801).bind fun t808 => (if true = true then (if t770 = true then (if t777 = true then (if t781 = true then (if t790 = true then (if t797 = true then (if t807 = true then (some t808) else (none)) else (none)) else (none)) else (none)) else (none)) else (none)) else (none))) = some r := H
              have A48 := Aside0.mk A480
              clear A480
              replace H := Option.bind_eq_some_iff.mp H
              obtain ⟨t808, A490, H⟩ := H
              replace H : (if true = true then (if t770 = true then (if t777 = true then (if t781 = true then (if t790 = true then (if t797 = true then (if t807 = true then (some t808) else (none)) else (none)) else (none)) else (none)) else (none)) else (none)) else (none)) = some r := H
              have A49 := Aside0.mk A490
              clear A490
              replace H : (if t770 = true then (if t777 = true then (if t781 = true then (if t790 = true then (if t797 = true then (if t807 = true then (some t808) else (none)) else (none)) else (none)) else (none)) else (none)) else (none)) = some r := by first | exact H | (rw [if_pos rfl] at H; exact H)
              by_cases c50 : t770 = true
              · subst c50
                have H1 : (if t777 = true then (if t781 = true then (if t790 = true then (if t797 = true then (if t807 = true then (some t808) else (none)) else (none)) else (none)) else (none)) else (none)) = some r := by rw [if_pos rfl] at H; exact H
                clear H
                have H := H1
                clear H1
                by_cases c51 : t777 = true
                · subst c51
                  have H1 : (if t781 = true then (if t790 = true then (if t797 = true then (if t807 = true then (some t808) else (none)) else (none)) else (none)) else (none)) = some r := by rw [if_pos rfl] at H; exact H
                  clear H
                  have H := H1
                  clear H1
                  by_cases c52 : t781 = true
                  · subst c52
                    have H1 : (if t790 = true then (if t797 = true then (if t807 = true then (some t808) else (none)) else (none)) else (none)) = some r := by rw [if_pos rfl] at H; exact H
                    clear H
                    have H := H1
                    clear H1
                    by_cases c53 : t790 = true
                    · subst c53
                      have H1 : (if t797 = true then (if t807 = true then (some t808) else (none)) else (none)) = some r := by rw [if_pos rfl] at H; exact H
                      clear H
                      have H := H1
                      clear H1
                      by_cases c54 : t797 = true
                      · subst c54
                        have H1 : (if t807 = true then (some t808) else (none)) = some r := by rw [if_pos rfl] at H; exact H
                        clear H
                        have H := H1
                        clear H1
                        by_cases c55 : t807 = true
                        · subst c55
                          have H1 : (some t808) = some r := by rw [if_pos rfl] at H; exact H
                          clear H
                          have H := H1
                          clear H1
                          obtain rfl := Option.some.inj H
                          go_wp2_with (first | ((with_reducible refine gate_callee (f := 12) rfl ?_); refine goesM_ (some 90) Try.func12 #[.slice A0 (l0.take ((ji7) : Int).toNat).length c0, .slice A1 (l1.take ((ji10) : Int).toNat).length c1] rfl ?_ (by (try simp only [List.map_toArray, List.map_cons, List.map_nil]); first | done | (rw [show (l0.take ((ji7) : Int).toNat).length = (ji7).toNat from (by rw [List.length_take]; have h_ : ((ji7) : Int) ≤ (l0.length : Int) := (by first | exact od_ | (rw [← hji7]; unfold mn; split <;> omega)); omega)] <;> rfl) | (rw [show (l1.take ((ji10) : Int).toNat).length = (ji10).toNat from (by rw [List.length_take]; have h_ : ((ji10) : Int) ≤ (l1.length : Int) := (by first | exact od_ | (rw [← hji10]; unfold mn; split <;> omega)); omega)] <;> rfl) | (rw [show (l0.take ((ji7) : Int).toNat).length = (ji7).toNat from (by rw [List.length_take]; have h_ : ((ji7) : Int) ≤ (l0.length : Int) := (by first | exact od_ | (rw [← hji7]; unfold mn; split <;> omega)); omega), show (l1.take ((ji10) : Int).toNat).length = (ji10).toNat from (by rw [List.length_take]; have h_ : ((ji10) : Int) ≤ (l1.length : Int) := (by first | exact od_ | (rw [← hji10]; unfold mn; split <;> omega)); omega)] <;> rfl) | (simp only [hji10, hji7]; rfl) | rfl | (simp only [List.length_drop, List.length_take]; rfl)); (with_reducible refine (quo_DivMod.calls kj25 _ _ (l0.take ((ji7) : Int).toNat) _ _ (l1.take ((ji10) : Int).toNat) t784 t787 true _ ?side1 ?side2 ?side3 ?side4 A45.out).mono ?_); (case side1 => repeat (first | exact (Kd.C_below HR761.out HB.out) | (with_reducible refine Kd.C_alloc ?_ _) | (with_reducible refine Kd.C_drewN ?_ _) | (with_reducible refine Kd.C_drew ?_))); (case side2 => exact HC761.out); (case side3 => repeat (first | exact (Kd.C_below HR762.out HB.out) | (with_reducible refine Kd.C_alloc ?_ _) | (with_reducible refine Kd.C_drewN ?_ _) | (with_reducible refine Kd.C_drew ?_))); (case side4 => exact HC762.out); rintro e w56 ⟨v785, v788, rfl, ho0, ho1, hb⟩; refine ⟨_, rfl, ?_⟩; have n0_ := Aside0.mk (Kd.R_lower (Kd.R_mono (ok' := fun k_ => True) ho0 (fun _ hk_ => trivial)) (below_size bl_)); have n1_ := Aside0.mk (Kd.V_lower (Kd.V_mono (ok' := fun k_ => some k_ ≠ (v785 : Value).ownBlock) ho1 (fun k_ hk_ => hk_.2)) (below_size bl_)); have n2_ := Aside0.mk (below_step bl_ hb); clear HB; have HO786 := n0_; have HO789 := n1_; have HB := n2_; clear n0_ n1_ n2_; (try clear hb); (try clear hb2); (try clear hk); (try clear hi); (try clear ho0); (try clear ho1); obtain ⟨Ao57, co57, eo57⟩ := Kd.R_slice HO786.out; subst eo57) | ((with_reducible refine gate_callee (f := 12) rfl ?_); refine goesM_ (some 97) Try.func12 #[.slice Ao57 t784.length co57, .slice A2 (l2.take ((ji13) : Int).toNat).length c2] rfl ?_ (by (try simp only [List.map_toArray, List.map_cons, List.map_nil]); first | done | (rw [show (l2.take ((ji13) : Int).toNat).length = (ji13).toNat from (by rw [List.length_take]; have h_ : ((ji13) : Int) ≤ (l2.length : Int) := (by first | exact od_ | (rw [← hji13]; unfold mn; split <;> omega)); omega)] <;> rfl) | (simp only [hji13]; rfl) | rfl | (simp only [List.length_drop, List.length_take]; rfl)); (with_reducible refine (quo_DivMod.calls kj25 _ _ t784 _ _ (l2.take ((ji13) : Int).toNat) t791 t794 true _ ?side1 ?side2 ?side3 ?side4 A46.out).mono ?_); (case side1 => repeat (first | exact (Kd.R_reads' HO786.out).2.2 | (with_reducible refine Kd.C_alloc ?_ _) | (with_reducible refine Kd.C_drewN ?_ _) | (with_reducible refine Kd.C_drew ?_))); (case side2 => exact (Kd.R_reads' HO786.out).2.1); (case side3 => repeat (first | exact (Kd.C_below HR763.out HB.out) | (with_reducible refine Kd.C_alloc ?_ _) | (with_reducible refine Kd.C_drewN ?_ _) | (with_reducible refine Kd.C_drew ?_))); (case side4 => exact HC763.out); rintro e w58 ⟨v792, v795, rfl, ho0, ho1, hb⟩; refine ⟨_, rfl, ?_⟩; have n0_ := Aside0.mk (Kd.R_elder' (mvR HO786.out) (Kd.R_base ho0) hb); have n1_ := Aside0.mk (Kd.V_elder' (mvV HO789.out) (Kd.R_base ho0) hb); have n2_ := Aside0.mk (Kd.R_lower (Kd.R_new' (Kd.R_mono (ok' := fun k_ => True) ho0 (fun _ hk_ => trivial)) (Kd.R_lt (mvR HO786.out))) (below_size bl_)); have n3_ := Aside0.mk (Kd.V_lower (Kd.V_mono (ok' := fun k_ => some k_ ≠ (v792 : Value).ownBlock ∧ some k_ ≠ (.slice Ao57 t784.length co57 : Value).ownBlock) ho1 (fun k_ hk_ => ⟨hk_.2, (Kd.fresh' (Kd.R_lt (mvR HO786.out)) k_ hk_.1)⟩)) (below_size bl_)); have n4_ := Aside0.mk (below_step bl_ hb); clear HO786; clear HO789; clear HB; have HO786 := n0_; have HO789 := n1_; have HO793 := n2_; have HO796 := n3_; have HB := n4_; clear n0_ n1_ n2_ n3_ n4_; (try clear hb); (try clear hb2); (try clear hk); (try clear hi); (try clear ho0); (try clear ho1)) | ((with_reducible refine gate_callee (f := 21) rfl ?_); refine goesM_ (some 105) Try.func21 #[.slice A1 (l1.take ((ji10) : Int).toNat).length c1, .slice A2 (l2.take ((ji13) : Int).toNat).length c2] rfl ?_ (by (try simp only [List.map_toArray, List.map_cons, List.map_nil]); first | done | (rw [show (l1.take ((ji10) : Int).toNat).length = (ji10).toNat from (by rw [List.length_take]; have h_ : ((ji10) : Int) ≤ (l1.length : Int) := (by first | exact od_ | (rw [← hji10]; unfold mn; split <;> omega)); omega)] <;> rfl) | (rw [show (l2.take ((ji13) : Int).toNat).length = (ji13).toNat from (by rw [List.length_take]; have h_ : ((ji13) : Int) ≤ (l2.length : Int) := (by first | exact od_ | (rw [← hji13]; unfold mn; split <;> omega)); omega)] <;> rfl) | (rw [show (l1.take ((ji10) : Int).toNat).length = (ji10).toNat from (by rw [List.length_take]; have h_ : ((ji10) : Int) ≤ (l1.length : Int) := (by first | exact od_ | (rw [← hji10]; unfold mn; split <;> omega)); omega), show (l2.take ((ji13) : Int).toNat).length = (ji13).toNat from (by rw [List.length_take]; have h_ : ((ji13) : Int) ≤ (l2.length : Int) := (by first | exact od_ | (rw [← hji13]; unfold mn; split <;> omega)); omega)] <;> rfl) | (simp only [hji10, hji13]; rfl) | rfl | (simp only [List.length_drop, List.length_take]; rfl)); (with_reducible refine (nat_Mul.calls kj25 (fun k_ => k_ < w.heap.size) _ _ (l1.take ((ji10) : Int).toNat) (fun k_ => k_ < w.heap.size) _ _ (l2.take ((ji13) : Int).toNat) t798 _ ?side1 ?side2 A47.out).mono ?_); (case side1 => exact Kd.V_mk HC762.out (Kd.F_below (Kd.C_F (Kd.heap_int .u32) HR762.out) bl_)); (case side2 => exact Kd.V_mk HC763.out (Kd.F_below (Kd.C_F (Kd.heap_int .u32) HR763.out) bl_)); rintro e w59 ⟨v799, rfl, ho0, hb⟩; refine ⟨_, rfl, ?_⟩; have n0_ := Aside0.mk (Kd.R_below (mvR HO786.out) hb); have n1_ := Aside0.mk (Kd.V_below (mvV HO789.out) hb); have n2_ := Aside0.mk (Kd.R_below (mvR HO793.out) hb); have n3_ := Aside0.mk (Kd.V_below (mvV HO796.out) hb); have n4_ := Aside0.mk (Kd.V_lower (Kd.V_mono (ok' := fun k_ => some k_ ≠ (.slice Ao57 t784.length co57 : Value).ownBlock ∧ some k_ ≠ (v792 : Value).ownBlock) ho0 (fun k_ hk_ => ⟨Or.elim hk_ (fun hs_ => Or.elim hs_ (fun hs_ => fun e_ => Nat.not_le.2 hs_ (Kd.R_base HO786.out k_ e_.symm)) (fun hs_ => fun e_ => Nat.not_le.2 hs_ (Kd.R_base HO786.out k_ e_.symm))) (fun hn_ => (Kd.fresh' (Kd.R_lt (mvR HO786.out)) k_ hn_)), Or.elim hk_ (fun hs_ => Or.elim hs_ (fun hs_ => fun e_ => Nat.not_le.2 hs_ (Kd.R_base HO793.out k_ e_.symm)) (fun hs_ => fun e_ => Nat.not_le.2 hs_ (Kd.R_base HO793.out k_ e_.symm))) (fun hn_ => (Kd.fresh' (Kd.R_lt (mvR HO793.out)) k_ hn_))⟩)) (below_size bl_)); have n5_ := Aside0.mk (below_step bl_ hb); clear HO786; clear HO789; clear HO793; clear HO796; clear HB; have HO786 := n0_; have HO789 := n1_; have HO793 := n2_; have HO796 := n3_; have HO800 := n4_; have HB := n5_; clear n0_ n1_ n2_ n3_ n4_ n5_; (try clear hb); (try clear hb2); (try clear hk); (try clear hi); (try clear ho0); obtain ⟨Ao60, co60, eo60⟩ := Kd.V_slice HO800.out; subst eo60) | ((with_reducible refine gate_callee (f := 12) rfl ?_); refine goesM_ (some 106) Try.func12 #[.slice A0 (l0.take ((ji7) : Int).toNat).length c0, .slice Ao60 t798.length co60] rfl ?_ (by (try simp only [List.map_toArray, List.map_cons, List.map_nil]); first | done | (rw [show (l0.take ((ji7) : Int).toNat).length = (ji7).toNat from (by rw [List.length_take]; have h_ : ((ji7) : Int) ≤ (l0.length : Int) := (by first | exact od_ | (rw [← hji7]; unfold mn; split <;> omega)); omega)] <;> rfl) | (simp only [hji7]; rfl) | rfl | (simp only [List.length_drop, List.length_take]; rfl)); (with_reducible refine (quo_DivMod.calls kj25 _ _ (l0.take ((ji7) : Int).toNat) _ _ t798 t801 t804 true _ ?side1 ?side2 ?side3 ?side4 A48.out).mono ?_); (case side1 => repeat (first | exact (Kd.C_below HR761.out HB.out) | (with_reducible refine Kd.C_alloc ?_ _) | (with_reducible refine Kd.C_drewN ?_ _) | (with_reducible refine Kd.C_drew ?_))); (case side2 => exact HC761.out); (case side3 => repeat (first | exact (Kd.V_reads' HO800.out).2.2 | (with_reducible refine Kd.C_alloc ?_ _) | (with_reducible refine Kd.C_drewN ?_ _) | (with_reducible refine Kd.C_drew ?_))); (case side4 => exact (Kd.V_reads' HO800.out).2.1); rintro e w61 ⟨v802, v805, rfl, ho0, ho1, hb⟩; refine ⟨_, rfl, ?_⟩; have n0_ := Aside0.mk (Kd.R_elder' (mvR HO786.out) (Kd.R_base ho0) hb); have n1_ := Aside0.mk (Kd.V_elder' (mvV HO789.out) (Kd.R_base ho0) hb); have n2_ := Aside0.mk (Kd.R_elder' (mvR HO793.out) (Kd.R_base ho0) hb); have n3_ := Aside0.mk (Kd.V_elder' (mvV HO796.out) (Kd.R_base ho0) hb); have n4_ := Aside0.mk (Kd.V_elder' (mvV HO800.out) (Kd.R_base ho0) hb); have n5_ := Aside0.mk (Kd.R_lower (Kd.R_new' (Kd.R_new' (Kd.R_mono (ok' := fun k_ => True) ho0 (fun _ hk_ => trivial)) (Kd.R_lt (mvR HO786.out))) (Kd.R_lt (mvR HO793.out))) (below_size bl_)); have n6_ := Aside0.mk (Kd.V_lower (Kd.V_mono (ok' := fun k_ => some k_ ≠ (v802 : Value).ownBlock ∧ some k_ ≠ (.slice Ao57 t784.length co57 : Value).ownBlock ∧ some k_ ≠ (v792 : Value).ownBlock) ho1 (fun k_ hk_ => ⟨hk_.2, (Kd.fresh' (Kd.R_lt (mvR HO786.out)) k_ hk_.1), (Kd.fresh' (Kd.R_lt (mvR HO793.out)) k_ hk_.1)⟩)) (below_size bl_)); have n7_ := Aside0.mk (below_step bl_ hb); clear HO786; clear HO789; clear HO793; clear HO796; clear HO800; clear HB; have HO786 := n0_; have HO789 := n1_; have HO793 := n2_; have HO796 := n3_; have HO800 := n4_; have HO803 := n5_; have HO806 := n6_; have HB := n7_; clear n0_ n1_ n2_ n3_ n4_ n5_ n6_ n7_; (try clear hb); (try clear hb2); (try clear hk); (try clear hi); (try clear ho0); (try clear ho1); obtain ⟨Ao62, co62, eo62⟩ := Kd.R_slice HO793.out; subst eo62; obtain ⟨Ao63, co63, eo63⟩ := Kd.R_slice HO803.out; subst eo63) | ((with_reducible refine gate_callee (f := 14) rfl ?_); refine goesM_ (some 112) Try.func14 #[.slice Ao62 t791.length co62, .slice Ao63 t801.length co63] rfl ?_; (with_reducible refine (astrolabelaw03_digits.calls kj25 _ _ t791 _ _ t801 t808 _ ?side1 ?side2 ?side3 ?side4 A49.out).mono ?_); (case side1 => repeat (first | exact (Kd.R_reads' HO793.out).2.2 | (with_reducible refine Kd.C_alloc ?_ _) | (with_reducible refine Kd.C_drewN ?_ _) | (with_reducible refine Kd.C_drew ?_))); (case side2 => exact (Kd.R_reads' HO793.out).2.1); (case side3 => repeat (first | exact (Kd.R_reads' HO803.out).2.2 | (with_reducible refine Kd.C_alloc ?_ _) | (with_reducible refine Kd.C_drewN ?_ _) | (with_reducible refine Kd.C_drew ?_))); (case side4 => exact (Kd.R_reads' HO803.out).2.1); rintro e w' ⟨rfl, ⟨nd, rfl⟩⟩; refine ⟨_, rfl, ?_⟩))
                          go_ret
                          exact ⟨by first | rfl | (simp [errW_none, errW_some] <;> rfl) | (simp only [← hji7, ← hji10, ← hji13]; first | rfl | (simp [errW_none, errW_some] <;> rfl)) | (simp [*, errW_none, errW_some] <;> rfl), bl_⟩
                        · replace c55 := Bool.eq_false_iff.mpr c55
                          subst c55
                          have H1 : (none) = some r := by rw [if_neg (show ¬ (false = true) by decide)] at H; exact H
                          clear H
                          have H := H1
                          clear H1
                          exact absurd H (by simp)
                      · replace c54 := Bool.eq_false_iff.mpr c54
                        subst c54
                        have H1 : (none) = some r := by rw [if_neg (show ¬ (false = true) by decide)] at H; exact H
                        clear H
                        have H := H1
                        clear H1
                        exact absurd H (by simp)
                    · replace c53 := Bool.eq_false_iff.mpr c53
                      subst c53
                      have H1 : (none) = some r := by rw [if_neg (show ¬ (false = true) by decide)] at H; exact H
                      clear H
                      have H := H1
                      clear H1
                      exact absurd H (by simp)
                  · replace c52 := Bool.eq_false_iff.mpr c52
                    subst c52
                    have H1 : (none) = some r := by rw [if_neg (show ¬ (false = true) by decide)] at H; exact H
                    clear H
                    have H := H1
                    clear H1
                    exact absurd H (by simp)
                · replace c51 := Bool.eq_false_iff.mpr c51
                  subst c51
                  have H1 : (none) = some r := by rw [if_neg (show ¬ (false = true) by decide)] at H; exact H
                  clear H
                  have H := H1
                  clear H1
                  exact absurd H (by simp)
              · replace c50 := Bool.eq_false_iff.mpr c50
                subst c50
                have H1 : (none) = some r := by rw [if_neg (show ¬ (false = true) by decide)] at H; exact H
                clear H
                have H := H1
                clear H1
                exact absurd H (by simp)
  · replace c6 := Bool.eq_false_iff.mpr c6
    subst c6
    have H1 : (none) = some r := by rw [if_neg (show ¬ (false = true) by decide)] at H; exact H
    clear H
    have H := H1
    clear H1
    exact absurd H (by simp)

/-- THE ONE PURE STATEMENT of astrolabelaw03_QuoSteps: yours. -/
def astrolabelaw03_QuoSteps.Pure : Prop := ∀ (l0 : List Int) (l1 : List Int) (l2 : List Int) (a3 : Int), l0.length ≤ maxLen → l0.length * 4 ≤ 140737488351232 → (∀ x ∈ l0, (Lit.int .u32 x).wf = true) → l1.length ≤ maxLen → l1.length * 4 ≤ 140737488351232 → (∀ x ∈ l1, (Lit.int .u32 x).wf = true) → l2.length ≤ maxLen → l2.length * 4 ≤ 140737488351232 → (∀ x ∈ l2, (Lit.int .u32 x).wf = true) → (Lit.int .i64 a3).wf = true → ∃ k, astrolabelaw03_QuoSteps.f k l0 l1 l2 a3 = some true
theorem astrolabelaw03_QuoSteps.walk (P : astrolabelaw03_QuoSteps.Pure) (a0 : Option Addr) (len0 cap0 : Nat) (z0 : List Int) (a1 : Option Addr) (len1 cap1 : Nat) (z1 : List Int) (a2 : Option Addr) (len2 cap2 : Nat) (z2 : List Int) (a3 : Int) (w : World) (w0 : (a0 = none ∧ len0 = 0 ∧ cap0 = 0 ∧ z0 = []) ∨ ∃ x, a0 = some x ∧ len0 ≤ cap0 ∧ cap0 ≤ maxLen ∧ z0.length = cap0 ∧ (∀ i, i < z0.length → w.cell? (x.add i) = some (.int .u32 (z0.getD i 0))) ∧ ∀ n ∈ z0, (Lit.int .u32 n).wf = true) (y0 : len0 * 4 ≤ 140737488351232) (w1 : (a1 = none ∧ len1 = 0 ∧ cap1 = 0 ∧ z1 = []) ∨ ∃ x, a1 = some x ∧ len1 ≤ cap1 ∧ cap1 ≤ maxLen ∧ z1.length = cap1 ∧ (∀ i, i < z1.length → w.cell? (x.add i) = some (.int .u32 (z1.getD i 0))) ∧ ∀ n ∈ z1, (Lit.int .u32 n).wf = true) (y1 : len1 * 4 ≤ 140737488351232) (w2 : (a2 = none ∧ len2 = 0 ∧ cap2 = 0 ∧ z2 = []) ∨ ∃ x, a2 = some x ∧ len2 ≤ cap2 ∧ cap2 ≤ maxLen ∧ z2.length = cap2 ∧ (∀ i, i < z2.length → w.cell? (x.add i) = some (.int .u32 (z2.getD i 0))) ∧ ∀ n ∈ z2, (Lit.int .u32 n).wf = true) (y2 : len2 * 4 ≤ 140737488351232) (w3 : (Lit.int .i64 a3).wf = true) :
    Calls Try.prog 8 #[.slice a0 len0 cap0, .slice a1 len1 cap1, .slice a2 len2 cap2, .int .i64 a3] w fun e w' => e = .returned (.bool true) ∧ Below w.heap.size w w' := by
  obtain ⟨l0, rfl, hr0, hm0, hw0, hc0⟩ := ReadsInt.ofRowC w0
  obtain ⟨l1, rfl, hr1, hm1, hw1, hc1⟩ := ReadsInt.ofRowC w1
  obtain ⟨l2, rfl, hr2, hm2, hw2, hc2⟩ := ReadsInt.ofRowC w2
  obtain ⟨k, h⟩ := P l0 l1 l2 a3 hm0 y0 hw0 hm1 y1 hw1 hm2 y2 hw2 w3
  refine (astrolabelaw03_QuoSteps.calls k _ _ l0 _ _ l1 _ _ l2 a3 true w (Kd.C_of_reads (d := (0 : Int)) (h1 := fun _ => rfl) hr0) hc0 (Kd.C_of_reads (d := (0 : Int)) (h1 := fun _ => rfl) hr1) hc1 (Kd.C_of_reads (d := (0 : Int)) (h1 := fun _ => rfl) hr2) hc2 h).mono ?_
  rintro e w' ⟨rfl, hd⟩
  exact ⟨rfl, hd⟩

end Go.Proofs.Ytohkjfdcmiiehaa.P
