/- What the Go functions of these names come to, as plain Lean functions, and the walks that show it. Written for this claim by a turned copy of the print program; Lean checks it. -/
import Derived.Test.YtohkjfdcmiiehaaP0
import Derived.Test.YtohkjfdcmiiehaaP1
import Derived.Test.YtohkjfdcmiiehaaP3
import Derived.Test.YtohkjfdcmiiehaaP4
import Derived.Test.YtohkjfdcmiiehaaP11
import Derived.Test.YtohkjfdcmiiehaaP15
namespace Go.Proofs.Ytohkjfdcmiiehaa.P
open Go.RowKit Go.Proofs.YtohkjfdcmiiehaaW.PrintWords Go.Proofs.YtohkjfdcmiiehaaW.PrintLast Go.Proofs.YtohkjfdcmiiehaaW.PrintMore
attribute [local go_sem] max2_int min2_int max_two min_two max_three min_three max_four min_four   -- for this text's walks alone
set_option linter.unusedVariables false
set_option linter.unusedSimpArgs false

/-! ### astrolabelaw03_QuoSquares: function 6 -/
def astrolabelaw03_QuoSquares.f (k : Nat) (l0 : List Int) : Option (Bool) := (astrolabelaw03_examples.f k).bind fun t685 => (if t685 = true then (if 0 ≤ (mn (l0.length : Int) 30) then (if (mn (l0.length : Int) 30) ≤ (l0.length : Int) then ((quo_Sqrt.f k (l0.take ((mn (l0.length : Int) 30) : Int).toNat)).bind fun bt687 => ((nat_Mul.f k bt687.1 bt687.1).bind fun t693 => ((nat_Add.f k t693 bt687.2).bind fun t696 => ((nat_Trim.f k (l0.take ((mn (l0.length : Int) 30) : Int).toNat)).bind fun t699 => ((astrolabelaw03_digits.f k t696 t699).bind fun t702 => ((nat_Mul.f k (l0.take ((mn (l0.length : Int) 30) : Int).toNat) (l0.take ((mn (l0.length : Int) 30) : Int).toNat)).bind fun t703 => ((quo_Sqrt.f k t703).bind fun bt706 => ((nat_Trim.f k (l0.take ((mn (l0.length : Int) 30) : Int).toNat)).bind fun t712 => ((astrolabelaw03_digits.f k bt706.1 t712).bind fun t715 => (if t702 = true then ((nat_Add.f k bt687.1 bt687.1).bind fun t716 => ((nat_Cmp.f k bt687.2 t716).bind fun t719 => (if t719 ≤ 0 then (if t715 = true then (some ((bt706.2.length : Int) == 0)) else (none)) else (none)))) else (none))))))))))) else (none)) else (none)) else (none))
theorem astrolabelaw03_QuoSquares.mono : ∀ a0 k, LeO (astrolabelaw03_QuoSquares.f k a0) (astrolabelaw03_QuoSquares.f (k + 1) a0) := by
  intro a0 k
  unfold astrolabelaw03_QuoSquares.f
  repeat' first
      | (with_reducible exact astrolabelaw03_digits.mono _ _ _)
      | (with_reducible exact astrolabelaw03_examples.mono _)
      | (with_reducible exact nat_Add.mono _ _ _)
      | (with_reducible exact nat_Cmp.mono _ _ _)
      | (with_reducible exact nat_Mul.mono _ _ _)
      | (with_reducible exact nat_Trim.mono _ _)
      | (with_reducible exact quo_Sqrt.mono _ _)
      | (with_reducible exact LeO.refl _)
      | (with_reducible exact LeO.none _)
      | (with_reducible refine LeO.ite ?_ ?_)
      | (with_reducible refine LeO.bind ?_ (fun _ => ?_))
      | exact astrolabelaw03_digits.mono _ _ _
      | exact astrolabelaw03_examples.mono _
      | exact nat_Add.mono _ _ _
      | exact nat_Cmp.mono _ _ _
      | exact nat_Mul.mono _ _ _
      | exact nat_Trim.mono _ _
      | exact quo_Sqrt.mono _ _
      | exact LeO.none _
      | refine LeO.ite ?_ ?_
      | refine LeO.bind ?_ (fun _ => ?_)
set_option maxHeartbeats 8000000 in
set_option maxRecDepth 100000 in
theorem astrolabelaw03_QuoSquares.calls (k : Nat) (A0 : Option Addr) (c0 : Nat) (l0 : List Int) (r : Bool) (w : World) (hr0 : Kd.C (Kd.int .u32) w A0 l0.length l0) (hc0 : l0.length ≤ c0) (h : astrolabelaw03_QuoSquares.f k l0 = some r) :
    Calls Try.prog 6 #[.slice A0 l0.length c0] w fun e w' => e = .returned (.bool r) ∧ Below w.heap.size w w' := by
  have HR0 := Aside0.mk hr0
  have HC0 := Aside0.mk hc0
  clear hr0 hc0
  have HB := Aside0.mk (Below.refl w.heap.size w)
  have H : ((astrolabelaw03_examples.f k).bind fun t685 => (if t685 = true then (if 0 ≤ (mn (l0.length : Int) 30) then (if (mn (l0.length : Int) 30) ≤ (l0.length : Int) then ((quo_Sqrt.f k (l0.take ((mn (l0.length : Int) 30) : Int).toNat)).bind fun bt687 => ((nat_Mul.f k bt687.1 bt687.1).bind fun t693 => ((nat_Add.f k t693 bt687.2).bind fun t696 => ((nat_Trim.f k (l0.take ((mn (l0.length : Int) 30) : Int).toNat)).bind fun t699 => ((astrolabelaw03_digits.f k t696 t699).bind fun t702 => ((nat_Mul.f k (l0.take ((mn (l0.length : Int) 30) : Int).toNat) (l0.take ((mn (l0.length : Int) 30) : Int).toNat)).bind fun t703 => ((quo_Sqrt.f k t703).bind fun bt706 => ((nat_Trim.f k (l0.take ((mn (l0.length : Int) 30) : Int).toNat)).bind fun t712 => ((astrolabelaw03_digits.f k bt706.1 t712).bind fun t715 => (if t702 = true then ((nat_Add.f k bt687.1 bt687.1).bind fun t716 => ((nat_Cmp.f k bt687.2 t716).bind fun t719 => (if t719 ≤ 0 then (if t715 = true then (some ((bt706.2.length : Int) == 0)) else (none)) else (none)))) else (none))))))))))) else (none)) else (none)) else (none))) = some r := h
  clear h
  replace H := Option.bind_eq_some_iff.mp H
  obtain ⟨t685, A20, H⟩ := H
  replace H : (if t685 = true then (if 0 ≤ (mn (l0.length : Int) 30) then (if (mn (l0.length : Int) 30) ≤ (l0.length : Int) then ((quo_Sqrt.f k (l0.take ((mn (l0.length : Int) 30) : Int).toNat)).bind fun bt687 => ((nat_Mul.f k bt687.1 bt687.1).bind fun t693 => ((nat_Add.f k t693 bt687.2).bind fun t696 => ((nat_Trim.f k (l0.take ((mn (l0.length : Int) 30) : Int).toNat)).bind fun t699 => ((astrolabelaw03_digits.f k t696 t699).bind fun t702 => ((nat_Mul.f k (l0.take ((mn (l0.length : Int) 30) : Int).toNat) (l0.take ((mn (l0.length : Int) 30) : Int).toNat)).bind fun t703 => ((quo_Sqrt.f k t703).bind fun bt706 => ((nat_Trim.f k (l0.take ((mn (l0.length : Int) 30) : Int).toNat)).bind fun t712 => ((astrolabelaw03_digits.f k bt706.1 t712).bind fun t715 => (if t702 = true then ((nat_Add.f k bt687.1 bt687.1).bind fun t716 => ((nat_Cmp.f k bt687.2 t716).bind fun t719 => (if t719 ≤ 0 then (if t715 = true then (some ((bt706.2.length : Int) == 0)) else (none)) else (none)))) else (none))))))))))) else (none)) else (none)) else (none)) = some r := H
  have A2 := Aside0.mk A20
  clear A20
  by_cases c3 : t685 = true
  · subst c3
    have H1 : (if 0 ≤ (mn (l0.length : Int) 30) then (if (mn (l0.length : Int) 30) ≤ (l0.length : Int) then ((quo_Sqrt.f k (l0.take ((mn (l0.length : Int) 30) : Int).toNat)).bind fun bt687 => ((nat_Mul.f k bt687.1 bt687.1).bind fun t693 => ((nat_Add.f k t693 bt687.2).bind fun t696 => ((nat_Trim.f k (l0.take ((mn (l0.length : Int) 30) : Int).toNat)).bind fun t699 => ((astrolabelaw03_digits.f k t696 t699).bind fun t702 => ((nat_Mul.f k (l0.take ((mn (l0.length : Int) 30) : Int).toNat) (l0.take ((mn (l0.length : Int) 30) : Int).toNat)).bind fun t703 => ((quo_Sqrt.f k t703).bind fun bt706 => ((nat_Trim.f k (l0.take ((mn (l0.length : Int) 30) : Int).toNat)).bind fun t712 => ((astrolabelaw03_digits.f k bt706.1 t712).bind fun t715 => (if t702 = true then ((nat_Add.f k bt687.1 bt687.1).bind fun t716 => ((nat_Cmp.f k bt687.2 t716).bind fun t719 => (if t719 ≤ 0 then (if t715 = true then (some ((bt706.2.length : Int) == 0)) else (none)) else (none)))) else (none))))))))))) else (none)) else (none)) = some r := by rw [if_pos rfl] at H; exact H
    clear H
    have H := H1
    clear H1
    obtain ⟨ji4, hji4⟩ : ∃ j_ : Int, (mn (l0.length : Int) 30) = j_ := ⟨_, rfl⟩
    replace H : (if 0 ≤ (ji4) then (if (ji4) ≤ (l0.length : Int) then ((quo_Sqrt.f k (l0.take ((ji4) : Int).toNat)).bind fun bt687 => ((nat_Mul.f k bt687.1 bt687.1).bind fun t693 => ((nat_Add.f k t693 bt687.2).bind fun t696 => ((nat_Trim.f k (l0.take ((ji4) : Int).toNat)).bind fun t699 => ((astrolabelaw03_digits.f k t696 t699).bind fun t702 => ((nat_Mul.f k (l0.take ((ji4) : Int).toNat) (l0.take ((ji4) : Int).toNat)).bind fun t703 => ((quo_Sqrt.f k t703).bind fun bt706 => ((nat_Trim.f k (l0.take ((ji4) : Int).toNat)).bind fun t712 => ((astrolabelaw03_digits.f k bt706.1 t712).bind fun t715 => (if t702 = true then ((nat_Add.f k bt687.1 bt687.1).bind fun t716 => ((nat_Cmp.f k bt687.2 t716).bind fun t719 => (if t719 ≤ 0 then (if t715 = true then (some ((bt706.2.length : Int) == 0)) else (none)) else (none)))) else (none))))))))))) else (none)) else (none)) = some r := by first | (rw [hji4] at H; exact H) | (simp only [hji4] at H ⊢; exact H)
    (try rw [hji4] at A2)
    (try (have hji4h : ji4 ≤ 30 := by (rw [← hji4]; unfold mn; (repeat' split) <;> omega)))
    (try (have hji4g : ji4 ≤ 64 := by omega))
    (try (have hji4l : 0 ≤ ji4 := by (rw [← hji4]; unfold mn; (repeat' split) <;> omega)))
    (try (have hji4m : 0 ≤ ji4 := by omega))
    have hji4_ : (if 30 < (l0.length : Int) then 30 else (l0.length : Int)) = ji4 := hji4
    by_cases c5 : 0 ≤ (ji4)
    case neg => rw [if_neg c5] at H; exact absurd H (by simp)
    rw [if_pos c5] at H
    have c5b0 := eq_true c5
    have c5b1 : decide (0 ≤ (ji4)) = true := decide_eq_true c5
    clear c5
    by_cases c6 : (ji4) ≤ (l0.length : Int)
    case neg => rw [if_neg c6] at H; exact absurd H (by simp)
    rw [if_pos c6] at H
    have c6b0 := eq_true c6
    have c6b1 : decide ((ji4) ≤ (l0.length : Int)) = true := decide_eq_true c6
    clear c6
    replace H := Option.bind_eq_some_iff.mp H
    obtain ⟨⟨t687, t690⟩, A70, H⟩ := H
    replace H : ((nat_Mul.f k t687 t687).bind fun t693 => ((nat_Add.f k t693 t690).bind fun t696 => ((nat_Trim.f k (l0.take ((ji4) : Int).toNat)).bind fun t699 => ((astrolabelaw03_digits.f k t696 t699).bind fun t702 => ((nat_Mul.f k (l0.take ((ji4) : Int).toNat) (l0.take ((ji4) : Int).toNat)).bind fun t703 => ((quo_Sqrt.f k t703).bind fun bt706 => ((nat_Trim.f k (l0.take ((ji4) : Int).toNat)).bind fun t712 => ((astrolabelaw03_digits.f k bt706.1 t712).bind fun t715 => (if t702 = true then ((nat_Add.f k t687 t687).bind fun t716 => ((nat_Cmp.f k t690 t716).bind fun t719 => (if t719 ≤ 0 then (if t715 = true then (some ((bt706.2.length : Int) == 0)) else (none)) else (none)))) else (none)))))))))) = some r := H
    have A7 := Aside0.mk A70
    clear A70
    replace H := Option.bind_eq_some_iff.mp H
    obtain ⟨t693, A80, H⟩ := H
    replace H : ((nat_Add.f k t693 t690).bind fun t696 => ((nat_Trim.f k (l0.take ((ji4) : Int).toNat)).bind fun t699 => ((astrolabelaw03_digits.f k t696 t699).bind fun t702 => ((nat_Mul.f k (l0.take ((ji4) : Int).toNat) (l0.take ((ji4) : Int).toNat)).bind fun t703 => ((quo_Sqrt.f k t703).bind fun bt706 => ((nat_Trim.f k (l0.take ((ji4) : Int).toNat)).bind fun t712 => ((astrolabelaw03_digits.f k bt706.1 t712).bind fun t715 => (if t702 = true then ((nat_Add.f k t687 t687).bind fun t716 => ((nat_Cmp.f k t690 t716).bind fun t719 => (if t719 ≤ 0 then (if t715 = true then (some ((bt706.2.length : Int) == 0)) else (none)) else (none)))) else (none))))))))) = some r := H
    have A8 := Aside0.mk A80
    clear A80
    replace H := Option.bind_eq_some_iff.mp H
    obtain ⟨t696, A90, H⟩ := H
    replace H : ((nat_Trim.f k (l0.take ((ji4) : Int).toNat)).bind fun t699 => ((astrolabelaw03_digits.f k t696 t699).bind fun t702 => ((nat_Mul.f k (l0.take ((ji4) : Int).toNat) (l0.take ((ji4) : Int).toNat)).bind fun t703 => ((quo_Sqrt.f k t703).bind fun bt706 => ((nat_Trim.f k (l0.take ((ji4) : Int).toNat)).bind fun t712 => ((astrolabelaw03_digits.f k bt706.1 t712).bind fun t715 => (if t702 = true then ((nat_Add.f k t687 t687).bind fun t716 => ((nat_Cmp.f k t690 t716).bind fun t719 => (if t719 ≤ 0 then (if t715 = true then (some ((bt706.2.length : Int) == 0)) else (none)) else (none)))) else (none)))))))) = some r := H
    have A9 := Aside0.mk A90
    clear A90
    replace H := Option.bind_eq_some_iff.mp H
    obtain ⟨t699, A100, H⟩ := H
    replace H : ((astrolabelaw03_digits.f k t696 t699).bind fun t702 => ((nat_Mul.f k (l0.take ((ji4) : Int).toNat) (l0.take ((ji4) : Int).toNat)).bind fun t703 => ((quo_Sqrt.f k t703).bind fun bt706 => ((nat_Trim.f k (l0.take ((ji4) : Int).toNat)).bind fun t712 => ((astrolabelaw03_digits.f k bt706.1 t712).bind fun t715 => (if t702 = true then ((nat_Add.f k t687 t687).bind fun t716 => ((nat_Cmp.f k t690 t716).bind fun t719 => (if t719 ≤ 0 then (if t715 = true then (some ((bt706.2.length : Int) == 0)) else (none)) else (none)))) else (none))))))) = some r := H
    have A10 := Aside0.mk A100
    clear A100
    replace H := Option.bind_eq_some_iff.mp H
    obtain ⟨t702, A110, H⟩ := H
    replace H : ((nat_Mul.f k (l0.take ((ji4) : Int).toNat) (l0.take ((ji4) : Int).toNat)).bind fun t703 => ((quo_Sqrt.f k t703).bind fun bt706 => ((nat_Trim.f k (l0.take ((ji4) : Int).toNat)).bind fun t712 => ((astrolabelaw03_digits.f k bt706.1 t712).bind fun t715 => (if t702 = true then ((nat_Add.f k t687 t687).bind fun t716 => ((nat_Cmp.f k t690 t716).bind fun t719 => (if t719 ≤ 0 then (if t715 = true then (some ((bt706.2.length : Int) == 0)) else (none)) else (none)))) else (none)))))) = some r := H
    have A11 := Aside0.mk A110
    clear A110
    replace H := Option.bind_eq_some_iff.mp H
    obtain ⟨t703, A120, H⟩ := H
    replace H : ((quo_Sqrt.f k t703).bind fun bt706 => ((nat_Trim.f k (l0.take ((ji4) : Int).toNat)).bind fun t712 => ((astrolabelaw03_digits.f k bt706.1 t712).bind fun t715 => (if t702 = true then ((nat_Add.f k t687 t687).bind fun t716 => ((nat_Cmp.f k t690 t716).bind fun t719 => (if t719 ≤ 0 then (if t715 = true then (some ((bt706.2.length : Int) == 0)) else (none)) else (none)))) else (none))))) = some r := H
    have A12 := Aside0.mk A120
    clear A120
    replace H := Option.bind_eq_some_iff.mp H
    obtain ⟨⟨t706, t709⟩, A130, H⟩ := H
    replace H : ((nat_Trim.f k (l0.take ((ji4) : Int).toNat)).bind fun t712 => ((astrolabelaw03_digits.f k t706 t712).bind fun t715 => (if t702 = true then ((nat_Add.f k t687 t687).bind fun t716 => ((nat_Cmp.f k t690 t716).bind fun t719 => (if t719 ≤ 0 then (if t715 = true then (some ((t709.length : Int) == 0)) else (none)) else (none)))) else (none)))) = some r := H
    have A13 := Aside0.mk A130
    clear A130
    replace H := Option.bind_eq_some_iff.mp H
    obtain ⟨t712, A140, H⟩ := H
    replace H : ((astrolabelaw03_digits.f k t706 t712).bind fun t715 => (if t702 = true then ((nat_Add.f k t687 t687).bind fun t716 => ((nat_Cmp.f k t690 t716).bind fun t719 => (if t719 ≤ 0 then (if t715 = true then (some ((t709.length : Int) == 0)) else (none)) else (none)))) else (none))) = some r := H
    have A14 := Aside0.mk A140
    clear A140
    replace H := Option.bind_eq_some_iff.mp H
    obtain ⟨t715, A150, H⟩ := H
    replace H : (if t702 = true then ((nat_Add.f k t687 t687).bind fun t716 => ((nat_Cmp.f k t690 t716).bind fun t719 => (if t719 ≤ 0 then (if t715 = true then (some ((t709.length : Int) == 0)) else (none)) else (none)))) else (none)) = some r := H
    have A15 := Aside0.mk A150
    clear A150
    by_cases c16 : t702 = true
    · subst c16
      have H1 : ((nat_Add.f k t687 t687).bind fun t716 => ((nat_Cmp.f k t690 t716).bind fun t719 => (if t719 ≤ 0 then (if t715 = true then (some ((t709.length : Int) == 0)) else (none)) else (none)))) = some r := by rw [if_pos rfl] at H; exact H
      clear H
      have H := H1
      clear H1
      replace H := Option.bind_eq_some_iff.mp H
      obtain ⟨t716, A170, H⟩ := H
      replace H : ((nat_Cmp.f k t690 t716).bind fun t719 => (if t719 ≤ 0 then (if t715 = true then (some ((t709.length : Int) == 0)) else (none)) else (none))) = some r := H
      have A17 := Aside0.mk A170
      clear A170
      replace H := Option.bind_eq_some_iff.mp H
      obtain ⟨t719, A180, H⟩ := H
      replace H : (if t719 ≤ 0 then (if t715 = true then (some ((t709.length : Int) == 0)) else (none)) else (none)) = some r := H
      have A18 := Aside0.mk A180
      clear A180
      by_cases c19 : t719 ≤ 0
      case neg => rw [if_neg c19] at H; exact absurd H (by simp)
      rw [if_pos c19] at H
      have c19b0 : decide (t719 ≤ 0) = true := decide_eq_true c19
      clear c19
      by_cases c20 : t715 = true
      · subst c20
        have H1 : (some ((t709.length : Int) == 0)) = some r := by rw [if_pos rfl] at H; exact H
        clear H
        have H := H1
        clear H1
        obtain rfl := Option.some.inj H
        go_enter Try.func6, Try.ntmps6
        go_wp2_with (first | ((with_reducible refine gate_callee (f := 11) rfl ?_); refine goesM_ (some 10) Try.func11 #[] rfl ?_; (with_reducible refine (astrolabelaw03_examples.calls k  true _ A2.out).mono ?_); rintro e w21 ⟨rfl, hb⟩; refine ⟨_, rfl, ?_⟩; have n0_ := Aside0.mk (below_step bl_ hb); clear HB; have HB := n0_; clear n0_; (try clear hb); (try clear hb2); (try clear hk); (try clear hi); obtain ⟨i022, hi022, _, hsz22, _⟩ := info_parts info37; obtain ⟨hcut22, hA22, hC22⟩ := print_take_of (P := Try.prog) (Value.int .u32) 0 22 37 .i64 Try.underlying22 hi022 hsz22 A0 c0 l0 (ji4) od_ od_ HC0.out; have HR686 := Aside0.mk (Kd.C_of_reads (h1 := fun _ => rfl) (hA22 _ (Kd.reads_of_C HR0.out))); have HC686 := Aside0.mk hC22; clear hA22 hC22 hi022 hsz22) | ((with_reducible refine gate_callee (f := 17) rfl ?_); refine goesM_ (some 20) Try.func17 #[.slice A0 (l0.take ((ji4) : Int).toNat).length c0] rfl ?_ (by (try simp only [List.map_toArray, List.map_cons, List.map_nil]); first | done | (rw [show (l0.take ((ji4) : Int).toNat).length = (ji4).toNat from (by rw [List.length_take]; have h_ : ((ji4) : Int) ≤ (l0.length : Int) := (by first | exact od_ | (rw [← hji4]; unfold mn; split <;> omega)); omega)] <;> rfl) | (simp only [hji4]; rfl) | rfl | (simp only [List.length_drop, List.length_take]; rfl)); (with_reducible refine (quo_Sqrt.calls k _ _ (l0.take ((ji4) : Int).toNat) t687 t690 _ ?side1 ?side2 A7.out).mono ?_); (case side1 => repeat (first | exact (Kd.C_below HR686.out HB.out) | (with_reducible refine Kd.C_alloc ?_ _) | (with_reducible refine Kd.C_drewN ?_ _) | (with_reducible refine Kd.C_drew ?_))); (case side2 => exact HC686.out); rintro e w23 ⟨v688, v691, rfl, ho0, ho1, hb⟩; refine ⟨_, rfl, ?_⟩; have n0_ := Aside0.mk (Kd.V_lower (Kd.V_mono (ok' := fun k_ => True) ho0 (fun k_ hk_ => trivial)) (below_size bl_)); have n1_ := Aside0.mk (Kd.V_lower (Kd.V_mono (ok' := fun k_ => True) ho1 (fun k_ hk_ => trivial)) (below_size bl_)); have n2_ := Aside0.mk (below_step bl_ hb); clear HB; have HO689 := n0_; have HO692 := n1_; have HB := n2_; clear n0_ n1_ n2_; (try clear hb); (try clear hb2); (try clear hk); (try clear hi); (try clear ho0); (try clear ho1); obtain ⟨Ao24, co24, eo24⟩ := Kd.V_slice HO689.out; subst eo24) | ((with_reducible refine gate_callee (f := 21) rfl ?_); refine goesM_ (some 25) Try.func21 #[.slice Ao24 t687.length co24, .slice Ao24 t687.length co24] rfl ?_; (with_reducible refine (nat_Mul.calls k (fun k_ => True) _ _ t687 (fun k_ => True) _ _ t687 t693 _ ?side1 ?side2 A8.out).mono ?_); (case side1 => exact HO689.out); (case side2 => exact HO689.out); rintro e w25 ⟨v694, rfl, ho0, hb⟩; refine ⟨_, rfl, ?_⟩; have n0_ := Aside0.mk (Kd.V_below (mvV HO689.out) hb); have n1_ := Aside0.mk (Kd.V_below (mvV HO692.out) hb); have n2_ := Aside0.mk (Kd.V_lower (Kd.V_mono (ok' := fun k_ => True) ho0 (fun k_ hk_ => trivial)) (below_size bl_)); have n3_ := Aside0.mk (below_step bl_ hb); clear HO689; clear HO692; clear HB; have HO689 := n0_; have HO692 := n1_; have HO695 := n2_; have HB := n3_; clear n0_ n1_ n2_ n3_; (try clear hb); (try clear hb2); (try clear hk); (try clear hi); (try clear ho0); obtain ⟨Ao26, co26, eo26⟩ := Kd.V_slice HO695.out; subst eo26; obtain ⟨Ao27, co27, eo27⟩ := Kd.V_slice HO692.out; subst eo27) | ((with_reducible refine gate_callee (f := 20) rfl ?_); refine goesM_ (some 27) Try.func20 #[.slice Ao26 t693.length co26, .slice Ao27 t690.length co27] rfl ?_; (with_reducible refine (nat_Add.calls k (fun k_ => True) _ _ t693 (fun k_ => True) _ _ t690 t696 _ ?side1 ?side2 A9.out).mono ?_); (case side1 => exact HO695.out); (case side2 => exact HO692.out); rintro e w28 ⟨v697, rfl, ho0, hb⟩; refine ⟨_, rfl, ?_⟩; have n0_ := Aside0.mk (Kd.V_below (mvV HO689.out) hb); have n1_ := Aside0.mk (Kd.V_below (mvV HO692.out) hb); have n2_ := Aside0.mk (Kd.V_below (mvV HO695.out) hb); have n3_ := Aside0.mk (Kd.V_lower (Kd.V_mono (ok' := fun k_ => True) ho0 (fun k_ hk_ => trivial)) (below_size bl_)); have n4_ := Aside0.mk (below_step bl_ hb); clear HO689; clear HO692; clear HO695; clear HB; have HO689 := n0_; have HO692 := n1_; have HO695 := n2_; have HO698 := n3_; have HB := n4_; clear n0_ n1_ n2_ n3_ n4_; (try clear hb); (try clear hb2); (try clear hk); (try clear hi); (try clear ho0)) | ((with_reducible refine gate_callee (f := 22) rfl ?_); refine goesM_ (some 29) Try.func22 #[.slice A0 (l0.take ((ji4) : Int).toNat).length c0] rfl ?_ (by (try simp only [List.map_toArray, List.map_cons, List.map_nil]); first | done | (rw [show (l0.take ((ji4) : Int).toNat).length = (ji4).toNat from (by rw [List.length_take]; have h_ : ((ji4) : Int) ≤ (l0.length : Int) := (by first | exact od_ | (rw [← hji4]; unfold mn; split <;> omega)); omega)] <;> rfl) | (simp only [hji4]; rfl) | rfl | (simp only [List.length_drop, List.length_take]; rfl)); (with_reducible refine (nat_Trim.calls k _ _ (l0.take ((ji4) : Int).toNat) t699 _ ?side1 ?side2 A10.out).mono ?_); (case side1 => repeat (first | exact (Kd.C_below HR686.out HB.out) | (with_reducible refine Kd.C_alloc ?_ _) | (with_reducible refine Kd.C_drewN ?_ _) | (with_reducible refine Kd.C_drew ?_))); (case side2 => exact HC686.out); rintro e w29 ⟨v700, rfl, ho0, hb⟩; refine ⟨_, rfl, ?_⟩; have n0_ := Aside0.mk (Kd.V_elder' (mvV HO689.out) (Kd.R_base ho0) hb); have n1_ := Aside0.mk (Kd.V_elder' (mvV HO692.out) (Kd.R_base ho0) hb); have n2_ := Aside0.mk (Kd.V_elder' (mvV HO695.out) (Kd.R_base ho0) hb); have n3_ := Aside0.mk (Kd.V_elder' (mvV HO698.out) (Kd.R_base ho0) hb); have n4_ := Aside0.mk (Kd.R_lower ho0 (below_size bl_)); have n5_ := Aside0.mk (below_step bl_ hb); clear HO689; clear HO692; clear HO695; clear HO698; clear HB; have HO689 := n0_; have HO692 := n1_; have HO695 := n2_; have HO698 := n3_; have HO701 := n4_; have HB := n5_; clear n0_ n1_ n2_ n3_ n4_ n5_; (try clear hb); (try clear hb2); (try clear hk); (try clear hi); (try clear ho0); obtain ⟨Ao30, co30, eo30⟩ := Kd.V_slice HO698.out; subst eo30; obtain ⟨Ao31, co31, eo31⟩ := Kd.R_slice HO701.out; subst eo31) | ((with_reducible refine gate_callee (f := 14) rfl ?_); refine goesM_ (some 30) Try.func14 #[.slice Ao30 t696.length co30, .slice Ao31 t699.length co31] rfl ?_; (with_reducible refine (astrolabelaw03_digits.calls k _ _ t696 _ _ t699 true _ ?side1 ?side2 ?side3 ?side4 A11.out).mono ?_); (case side1 => repeat (first | exact (Kd.V_reads' HO698.out).2.2 | (with_reducible refine Kd.C_alloc ?_ _) | (with_reducible refine Kd.C_drewN ?_ _) | (with_reducible refine Kd.C_drew ?_))); (case side2 => exact (Kd.V_reads' HO698.out).2.1); (case side3 => repeat (first | exact (Kd.R_reads' HO701.out).2.2 | (with_reducible refine Kd.C_alloc ?_ _) | (with_reducible refine Kd.C_drewN ?_ _) | (with_reducible refine Kd.C_drew ?_))); (case side4 => exact (Kd.R_reads' HO701.out).2.1); rintro e w' ⟨rfl, ⟨nd, rfl⟩⟩; refine ⟨_, rfl, ?_⟩) | ((with_reducible refine gate_callee (f := 21) rfl ?_); refine goesM_ (some 34) Try.func21 #[.slice A0 (l0.take ((ji4) : Int).toNat).length c0, .slice A0 (l0.take ((ji4) : Int).toNat).length c0] rfl ?_ (by (try simp only [List.map_toArray, List.map_cons, List.map_nil]); first | done | (rw [show (l0.take ((ji4) : Int).toNat).length = (ji4).toNat from (by rw [List.length_take]; have h_ : ((ji4) : Int) ≤ (l0.length : Int) := (by first | exact od_ | (rw [← hji4]; unfold mn; split <;> omega)); omega)] <;> rfl) | (rw [show (l0.take ((ji4) : Int).toNat).length = (ji4).toNat from (by rw [List.length_take]; have h_ : ((ji4) : Int) ≤ (l0.length : Int) := (by first | exact od_ | (rw [← hji4]; unfold mn; split <;> omega)); omega)] <;> rfl) | (simp only [hji4]; rfl) | rfl | (simp only [List.length_drop, List.length_take]; rfl)); (with_reducible refine (nat_Mul.calls k (fun k_ => k_ < w.heap.size) _ _ (l0.take ((ji4) : Int).toNat) (fun k_ => k_ < w.heap.size) _ _ (l0.take ((ji4) : Int).toNat) t703 _ ?side1 ?side2 A12.out).mono ?_); (case side1 => exact Kd.V_mk HC686.out (Kd.F_below (Kd.C_F (Kd.heap_int .u32) HR686.out) bl_)); (case side2 => exact Kd.V_mk HC686.out (Kd.F_below (Kd.C_F (Kd.heap_int .u32) HR686.out) bl_)); rintro e w32 ⟨v704, rfl, ho0, hb⟩; refine ⟨_, rfl, ?_⟩; have n0_ := Aside0.mk (Kd.V_below (mvV HO689.out) hb); have n1_ := Aside0.mk (Kd.V_below (mvV HO692.out) hb); have n2_ := Aside0.mk (Kd.V_below (mvV HO695.out) hb); have n3_ := Aside0.mk (Kd.V_below (mvV HO698.out) hb); have n4_ := Aside0.mk (Kd.R_below (mvR HO701.out) hb); have n5_ := Aside0.mk (Kd.V_lower (Kd.V_mono (ok' := fun k_ => some k_ ≠ (.slice Ao31 t699.length co31 : Value).ownBlock) ho0 (fun k_ hk_ => Or.elim hk_ (fun hs_ => Or.elim hs_ (fun hs_ => fun e_ => Nat.not_le.2 hs_ (Kd.R_base HO701.out k_ e_.symm)) (fun hs_ => fun e_ => Nat.not_le.2 hs_ (Kd.R_base HO701.out k_ e_.symm))) (fun hn_ => (Kd.fresh' (Kd.R_lt (mvR HO701.out)) k_ hn_)))) (below_size bl_)); have n6_ := Aside0.mk (below_step bl_ hb); clear HO689; clear HO692; clear HO695; clear HO698; clear HO701; clear HB; have HO689 := n0_; have HO692 := n1_; have HO695 := n2_; have HO698 := n3_; have HO701 := n4_; have HO705 := n5_; have HB := n6_; clear n0_ n1_ n2_ n3_ n4_ n5_ n6_; (try clear hb); (try clear hb2); (try clear hk); (try clear hi); (try clear ho0); obtain ⟨Ao33, co33, eo33⟩ := Kd.V_slice HO705.out; subst eo33) | ((with_reducible refine gate_callee (f := 17) rfl ?_); refine goesM_ (some 35) Try.func17 #[.slice Ao33 t703.length co33] rfl ?_; (with_reducible refine (quo_Sqrt.calls k _ _ t703 t706 t709 _ ?side1 ?side2 A13.out).mono ?_); (case side1 => repeat (first | exact (Kd.V_reads' HO705.out).2.2 | (with_reducible refine Kd.C_alloc ?_ _) | (with_reducible refine Kd.C_drewN ?_ _) | (with_reducible refine Kd.C_drew ?_))); (case side2 => exact (Kd.V_reads' HO705.out).2.1); rintro e w34 ⟨v707, v710, rfl, ho0, ho1, hb⟩; refine ⟨_, rfl, ?_⟩; have n0_ := Aside0.mk (Kd.V_below (mvV HO689.out) hb); have n1_ := Aside0.mk (Kd.V_below (mvV HO692.out) hb); have n2_ := Aside0.mk (Kd.V_below (mvV HO695.out) hb); have n3_ := Aside0.mk (Kd.V_below (mvV HO698.out) hb); have n4_ := Aside0.mk (Kd.R_below (mvR HO701.out) hb); have n5_ := Aside0.mk (Kd.V_below (mvV HO705.out) hb); have n6_ := Aside0.mk (Kd.V_lower (Kd.V_mono (ok' := fun k_ => some k_ ≠ (.slice Ao31 t699.length co31 : Value).ownBlock) ho0 (fun k_ hk_ => (Kd.fresh' (Kd.R_lt (mvR HO701.out)) k_ hk_))) (below_size bl_)); have n7_ := Aside0.mk (Kd.V_lower (Kd.V_mono (ok' := fun k_ => some k_ ≠ (.slice Ao31 t699.length co31 : Value).ownBlock) ho1 (fun k_ hk_ => (Kd.fresh' (Kd.R_lt (mvR HO701.out)) k_ hk_))) (below_size bl_)); have n8_ := Aside0.mk (below_step bl_ hb); clear HO689; clear HO692; clear HO695; clear HO698; clear HO701; clear HO705; clear HB; have HO689 := n0_; have HO692 := n1_; have HO695 := n2_; have HO698 := n3_; have HO701 := n4_; have HO705 := n5_; have HO708 := n6_; have HO711 := n7_; have HB := n8_; clear n0_ n1_ n2_ n3_ n4_ n5_ n6_ n7_ n8_; (try clear hb); (try clear hb2); (try clear hk); (try clear hi); (try clear ho0); (try clear ho1)) | ((with_reducible refine gate_callee (f := 22) rfl ?_); refine goesM_ (some 40) Try.func22 #[.slice A0 (l0.take ((ji4) : Int).toNat).length c0] rfl ?_ (by (try simp only [List.map_toArray, List.map_cons, List.map_nil]); first | done | (rw [show (l0.take ((ji4) : Int).toNat).length = (ji4).toNat from (by rw [List.length_take]; have h_ : ((ji4) : Int) ≤ (l0.length : Int) := (by first | exact od_ | (rw [← hji4]; unfold mn; split <;> omega)); omega)] <;> rfl) | (simp only [hji4]; rfl) | rfl | (simp only [List.length_drop, List.length_take]; rfl)); (with_reducible refine (nat_Trim.calls k _ _ (l0.take ((ji4) : Int).toNat) t712 _ ?side1 ?side2 A14.out).mono ?_); (case side1 => repeat (first | exact (Kd.C_below HR686.out HB.out) | (with_reducible refine Kd.C_alloc ?_ _) | (with_reducible refine Kd.C_drewN ?_ _) | (with_reducible refine Kd.C_drew ?_))); (case side2 => exact HC686.out); rintro e w35 ⟨v713, rfl, ho0, hb⟩; refine ⟨_, rfl, ?_⟩; have n0_ := Aside0.mk (Kd.V_elder' (mvV HO689.out) (Kd.R_base ho0) hb); have n1_ := Aside0.mk (Kd.V_elder' (mvV HO692.out) (Kd.R_base ho0) hb); have n2_ := Aside0.mk (Kd.V_elder' (mvV HO695.out) (Kd.R_base ho0) hb); have n3_ := Aside0.mk (Kd.V_elder' (mvV HO698.out) (Kd.R_base ho0) hb); have n4_ := Aside0.mk (Kd.R_elder' (mvR HO701.out) (Kd.R_base ho0) hb); have n5_ := Aside0.mk (Kd.V_elder' (mvV HO705.out) (Kd.R_base ho0) hb); have n6_ := Aside0.mk (Kd.V_elder' (mvV HO708.out) (Kd.R_base ho0) hb); have n7_ := Aside0.mk (Kd.V_elder' (mvV HO711.out) (Kd.R_base ho0) hb); have n8_ := Aside0.mk (Kd.R_lower (Kd.R_new' ho0 (Kd.R_lt (mvR HO701.out))) (below_size bl_)); have n9_ := Aside0.mk (below_step bl_ hb); clear HO689; clear HO692; clear HO695; clear HO698; clear HO701; clear HO705; clear HO708; clear HO711; clear HB; have HO689 := n0_; have HO692 := n1_; have HO695 := n2_; have HO698 := n3_; have HO701 := n4_; have HO705 := n5_; have HO708 := n6_; have HO711 := n7_; have HO714 := n8_; have HB := n9_; clear n0_ n1_ n2_ n3_ n4_ n5_ n6_ n7_ n8_ n9_; (try clear hb); (try clear hb2); (try clear hk); (try clear hi); (try clear ho0); obtain ⟨Ao36, co36, eo36⟩ := Kd.V_slice HO708.out; subst eo36; obtain ⟨Ao37, co37, eo37⟩ := Kd.R_slice HO714.out; subst eo37) | ((with_reducible refine gate_callee (f := 14) rfl ?_); refine goesM_ (some 41) Try.func14 #[.slice Ao36 t706.length co36, .slice Ao37 t712.length co37] rfl ?_; (with_reducible refine (astrolabelaw03_digits.calls k _ _ t706 _ _ t712 true _ ?side1 ?side2 ?side3 ?side4 A15.out).mono ?_); (case side1 => repeat (first | exact (Kd.V_reads' HO708.out).2.2 | (with_reducible refine Kd.C_alloc ?_ _) | (with_reducible refine Kd.C_drewN ?_ _) | (with_reducible refine Kd.C_drew ?_))); (case side2 => exact (Kd.V_reads' HO708.out).2.1); (case side3 => repeat (first | exact (Kd.R_reads' HO714.out).2.2 | (with_reducible refine Kd.C_alloc ?_ _) | (with_reducible refine Kd.C_drewN ?_ _) | (with_reducible refine Kd.C_drew ?_))); (case side4 => exact (Kd.R_reads' HO714.out).2.1); rintro e w' ⟨rfl, ⟨nd, rfl⟩⟩; refine ⟨_, rfl, ?_⟩) | (go_at_call 20; (with_reducible refine (nat_Add.calls k (fun k_ => ((True ∧ some k_ ≠ (.slice Ao31 t699.length co31 : Value).ownBlock) ∧ some k_ ≠ (.slice Ao37 t712.length co37 : Value).ownBlock)) _ _ t687 (fun k_ => ((True ∧ some k_ ≠ (.slice Ao31 t699.length co31 : Value).ownBlock) ∧ some k_ ≠ (.slice Ao37 t712.length co37 : Value).ownBlock)) _ _ t687 t716 _ ?side1 ?side2 A17.out).mono ?_); (case side1 => exact HO689.out); (case side2 => exact HO689.out); rintro e w38 ⟨v717, rfl, ho0, hb⟩; have n0_ := Aside0.mk (Kd.V_below (mvV HO689.out) hb); have n1_ := Aside0.mk (Kd.V_below (mvV HO692.out) hb); have n2_ := Aside0.mk (Kd.V_below (mvV HO695.out) hb); have n3_ := Aside0.mk (Kd.V_below (mvV HO698.out) hb); have n4_ := Aside0.mk (Kd.R_below (mvR HO701.out) hb); have n5_ := Aside0.mk (Kd.V_below (mvV HO705.out) hb); have n6_ := Aside0.mk (Kd.V_below (mvV HO708.out) hb); have n7_ := Aside0.mk (Kd.V_below (mvV HO711.out) hb); have n8_ := Aside0.mk (Kd.R_below (mvR HO714.out) hb); have n9_ := Aside0.mk (Kd.V_lower (Kd.V_mono (ok' := fun k_ => some k_ ≠ (.slice Ao31 t699.length co31 : Value).ownBlock ∧ some k_ ≠ (.slice Ao37 t712.length co37 : Value).ownBlock) ho0 (fun k_ hk_ => ⟨Or.elim hk_ (fun hs_ => Or.elim hs_ (fun hs_ => hs_.1.2) (fun hs_ => hs_.1.2)) (fun hn_ => (Kd.fresh' (Kd.R_lt (mvR HO701.out)) k_ hn_)), Or.elim hk_ (fun hs_ => Or.elim hs_ (fun hs_ => hs_.2) (fun hs_ => hs_.2)) (fun hn_ => (Kd.fresh' (Kd.R_lt (mvR HO714.out)) k_ hn_))⟩)) (below_size bl_)); have n10_ := Aside0.mk (below_step bl_ hb); clear HO689; clear HO692; clear HO695; clear HO698; clear HO701; clear HO705; clear HO708; clear HO711; clear HO714; clear HB; have HO689 := n0_; have HO692 := n1_; have HO695 := n2_; have HO698 := n3_; have HO701 := n4_; have HO705 := n5_; have HO708 := n6_; have HO711 := n7_; have HO714 := n8_; have HO718 := n9_; have HB := n10_; clear n0_ n1_ n2_ n3_ n4_ n5_ n6_ n7_ n8_ n9_ n10_; (try clear hb); (try clear hb2); (try clear hk); (try clear hi); (try clear ho0); obtain ⟨Ao39, co39, eo39⟩ := Kd.V_slice HO718.out; subst eo39) | (go_at_call 23; (with_reducible refine (nat_Cmp.calls k _ _ t690 _ _ t716 t719 _ ?side1 ?side2 ?side3 ?side4 A18.out).mono ?_); (case side1 => repeat (first | exact (Kd.V_reads' HO692.out).2.2 | (with_reducible refine Kd.C_alloc ?_ _) | (with_reducible refine Kd.C_drewN ?_ _) | (with_reducible refine Kd.C_drew ?_))); (case side2 => exact (Kd.V_reads' HO692.out).2.1); (case side3 => repeat (first | exact (Kd.V_reads' HO718.out).2.2 | (with_reducible refine Kd.C_alloc ?_ _) | (with_reducible refine Kd.C_drewN ?_ _) | (with_reducible refine Kd.C_drew ?_))); (case side4 => exact (Kd.V_reads' HO718.out).2.1); rintro e w40 ⟨rfl, hb⟩; have n0_ := Aside0.mk (Kd.V_below (mvV HO689.out) hb); have n1_ := Aside0.mk (Kd.V_below (mvV HO692.out) hb); have n2_ := Aside0.mk (Kd.V_below (mvV HO695.out) hb); have n3_ := Aside0.mk (Kd.V_below (mvV HO698.out) hb); have n4_ := Aside0.mk (Kd.R_below (mvR HO701.out) hb); have n5_ := Aside0.mk (Kd.V_below (mvV HO705.out) hb); have n6_ := Aside0.mk (Kd.V_below (mvV HO708.out) hb); have n7_ := Aside0.mk (Kd.V_below (mvV HO711.out) hb); have n8_ := Aside0.mk (Kd.R_below (mvR HO714.out) hb); have n9_ := Aside0.mk (Kd.V_below (mvV HO718.out) hb); have n10_ := Aside0.mk (below_step bl_ hb); clear HO689; clear HO692; clear HO695; clear HO698; clear HO701; clear HO705; clear HO708; clear HO711; clear HO714; clear HO718; clear HB; have HO689 := n0_; have HO692 := n1_; have HO695 := n2_; have HO698 := n3_; have HO701 := n4_; have HO705 := n5_; have HO708 := n6_; have HO711 := n7_; have HO714 := n8_; have HO718 := n9_; have HB := n10_; clear n0_ n1_ n2_ n3_ n4_ n5_ n6_ n7_ n8_ n9_ n10_; (try clear hb); (try clear hb2); (try clear hk); (try clear hi); obtain ⟨Ao41, co41, eo41⟩ := Kd.V_slice HO711.out; subst eo41))
        go_ret
        exact ⟨by first | rfl | (simp [errW_none, errW_some] <;> rfl) | (simp only [← hji4]; first | rfl | (simp [errW_none, errW_some] <;> rfl)) | (simp [*, errW_none, errW_some] <;> rfl), bl_⟩
      · replace c20 := Bool.eq_false_iff.mpr c20
        subst c20
        have H1 : (none) = some r := by rw [if_neg (show ¬ (false = true) by decide)] at H; exact H
        clear H
        have H := H1
        clear H1
        exact absurd H (by simp)
    · replace c16 := Bool.eq_false_iff.mpr c16
      subst c16
      have H1 : (none) = some r := by rw [if_neg (show ¬ (false = true) by decide)] at H; exact H
      clear H
      have H := H1
      clear H1
      exact absurd H (by simp)
  · replace c3 := Bool.eq_false_iff.mpr c3
    subst c3
    have H1 : (none) = some r := by rw [if_neg (show ¬ (false = true) by decide)] at H; exact H
    clear H
    have H := H1
    clear H1
    exact absurd H (by simp)

/-- THE ONE PURE STATEMENT of astrolabelaw03_QuoSquares: yours. -/
def astrolabelaw03_QuoSquares.Pure : Prop := ∀ (l0 : List Int), l0.length ≤ maxLen → l0.length * 4 ≤ 140737488351232 → (∀ x ∈ l0, (Lit.int .u32 x).wf = true) → ∃ k, astrolabelaw03_QuoSquares.f k l0 = some true
theorem astrolabelaw03_QuoSquares.walk (P : astrolabelaw03_QuoSquares.Pure) (a0 : Option Addr) (len0 cap0 : Nat) (z0 : List Int) (w : World) (w0 : (a0 = none ∧ len0 = 0 ∧ cap0 = 0 ∧ z0 = []) ∨ ∃ x, a0 = some x ∧ len0 ≤ cap0 ∧ cap0 ≤ maxLen ∧ z0.length = cap0 ∧ (∀ i, i < z0.length → w.cell? (x.add i) = some (.int .u32 (z0.getD i 0))) ∧ ∀ n ∈ z0, (Lit.int .u32 n).wf = true) (y0 : len0 * 4 ≤ 140737488351232) :
    Calls Try.prog 6 #[.slice a0 len0 cap0] w fun e w' => e = .returned (.bool true) ∧ Below w.heap.size w w' := by
  obtain ⟨l0, rfl, hr0, hm0, hw0, hc0⟩ := ReadsInt.ofRowC w0
  obtain ⟨k, h⟩ := P l0 hm0 y0 hw0
  refine (astrolabelaw03_QuoSquares.calls k _ _ l0 true w (Kd.C_of_reads (d := (0 : Int)) (h1 := fun _ => rfl) hr0) hc0 h).mono ?_
  rintro e w' ⟨rfl, hd⟩
  exact ⟨rfl, hd⟩

end Go.Proofs.Ytohkjfdcmiiehaa.P
