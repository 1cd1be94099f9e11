/- What the Go functions of these names come to, as plain Lean functions, and the walks that show it. Written for this claim by a turned copy of the print program; Lean checks it. -/
import Derived.Test.YtohkjfdcmiiehaaP0
import Derived.Test.YtohkjfdcmiiehaaP11
import Derived.Test.YtohkjfdcmiiehaaP13
import Derived.Test.YtohkjfdcmiiehaaP15
namespace Go.Proofs.Ytohkjfdcmiiehaa.P
open Go.RowKit Go.Proofs.YtohkjfdcmiiehaaW.PrintWords Go.Proofs.YtohkjfdcmiiehaaW.PrintLast Go.Proofs.YtohkjfdcmiiehaaW.PrintMore
attribute [local go_sem] max2_int min2_int max_two min_two max_three min_three max_four min_four   -- for this text's walks alone
set_option linter.unusedVariables false
set_option linter.unusedSimpArgs false

/-! ### astrolabelaw03_QuoDivides: function 3 -/
def astrolabelaw03_QuoDivides.f (k : Nat) (l0 : List Int) (l1 : List Int) : Option (Bool) := (astrolabelaw03_examples.f k).bind fun t566 => (if t566 = true then (if 0 ≤ (mn (l0.length : Int) 40) then (if (mn (l0.length : Int) 40) ≤ (l0.length : Int) then (if 0 ≤ (mn (l1.length : Int) 40) then (if (mn (l1.length : Int) 40) ≤ (l1.length : Int) then ((quo_DivMod.f k (l0.take ((mn (l0.length : Int) 40) : Int).toNat) (l1.take ((mn (l1.length : Int) 40) : Int).toNat)).bind fun bt569 => ((astrolaberef03_DivMod.f k (l0.take ((mn (l0.length : Int) 40) : Int).toNat) (l1.take ((mn (l1.length : Int) 40) : Int).toNat)).bind fun bt576 => ((astrolabelaw03_digits.f k bt569.1 bt576.1).bind fun t583 => ((astrolabelaw03_digits.f k bt569.2.1 bt576.2.1).bind fun t584 => (if 0 ≤ (mn ((l0.take ((mn (l0.length : Int) 40) : Int).toNat).length : Int) 8) then (if (mn ((l0.take ((mn (l0.length : Int) 40) : Int).toNat).length : Int) 8) ≤ ((l0.take ((mn (l0.length : Int) 40) : Int).toNat).length : Int) then (if 0 ≤ (mn ((l1.take ((mn (l1.length : Int) 40) : Int).toNat).length : Int) 8) then (if (mn ((l1.take ((mn (l1.length : Int) 40) : Int).toNat).length : Int) 8) ≤ ((l1.take ((mn (l1.length : Int) 40) : Int).toNat).length : Int) then ((quo_Gcd.f k ((l0.take ((mn (l0.length : Int) 40) : Int).toNat).take ((mn ((l0.take ((mn (l0.length : Int) 40) : Int).toNat).length : Int) 8) : Int).toNat) ((l1.take ((mn (l1.length : Int) 40) : Int).toNat).take ((mn ((l1.take ((mn (l1.length : Int) 40) : Int).toNat).length : Int) 8) : Int).toNat)).bind fun t587 => ((astrolaberef03_Gcd.f k ((l0.take ((mn (l0.length : Int) 40) : Int).toNat).take ((mn ((l0.take ((mn (l0.length : Int) 40) : Int).toNat).length : Int) 8) : Int).toNat) ((l1.take ((mn (l1.length : Int) 40) : Int).toNat).take ((mn ((l1.take ((mn (l1.length : Int) 40) : Int).toNat).length : Int) 8) : Int).toNat)).bind fun t592 => ((astrolabelaw03_digits.f k t587 t592).bind fun t595 => (if t583 = true then (if t584 = true then (if t595 = true then (some (bt569.2.2 == bt576.2.2)) else (none)) else (none)) else (none))))) else (none)) else (none)) else (none)) else (none)))))) else (none)) else (none)) else (none)) else (none)) else (none))
theorem astrolabelaw03_QuoDivides.mono : ∀ a0 a1 k, LeO (astrolabelaw03_QuoDivides.f k a0 a1) (astrolabelaw03_QuoDivides.f (k + 1) a0 a1) := by
  intro a0 a1 k
  unfold astrolabelaw03_QuoDivides.f
  repeat' first
      | (with_reducible exact astrolabelaw03_digits.mono _ _ _)
      | (with_reducible exact astrolabelaw03_examples.mono _)
      | (with_reducible exact astrolaberef03_DivMod.mono _ _ _)
      | (with_reducible exact astrolaberef03_Gcd.mono _ _ _)
      | (with_reducible exact quo_DivMod.mono _ _ _)
      | (with_reducible exact quo_Gcd.mono _ _ _)
      | (with_reducible exact LeO.refl _)
      | (with_reducible exact LeO.none _)
      | (with_reducible refine LeO.ite ?_ ?_)
      | (with_reducible refine LeO.bind ?_ (fun _ => ?_))
      | exact astrolabelaw03_digits.mono _ _ _
      | exact astrolabelaw03_examples.mono _
      | exact astrolaberef03_DivMod.mono _ _ _
      | exact astrolaberef03_Gcd.mono _ _ _
      | exact quo_DivMod.mono _ _ _
      | exact quo_Gcd.mono _ _ _
      | exact LeO.none _
      | refine LeO.ite ?_ ?_
      | refine LeO.bind ?_ (fun _ => ?_)
def astrolabelaw03_QuoDivides.T10 : Bool × List (List Nat × List Nat) := (true, [([], []), ([], []), ([1], [1]), ([2], [2]), ([0, 3], [0, 3]), ([], []), ([], []), ([6], [6]), ([7], [7]), ([5, 8], [5, 8]), ([4, 9], [4, 9]), ([], []), ([], []), ([12], [12]), ([13], [13]), ([11, 14], [11, 14]), ([], []), ([], []), ([17], [17]), ([18], [18]), ([16, 19], [16, 19]), ([15, 20, 10], [15, 20]), ([10, 21, 21], [10, 21]), ([22, 22, 0, 1, 2, 3, 4, 5, 6, 7, 8, 9, 10, 11, 12, 13, 14, 15, 16, 17, 18, 19, 20, 21, 22], [22])])
def astrolabelaw03_QuoDivides.B10 : List Nat := [0, 0, 2, 6, 15, 0, 0, 64, 192, 480, 1023, 0, 0, 4096, 12288, 30720, 0, 0, 131072, 393216, 983040, 2097151, 4194303, 8388607]
theorem astrolabelaw03_QuoDivides.tab10 : rtab .any (opsOf Try.f3 10) = astrolabelaw03_QuoDivides.T10 := by kernel_rfl
theorem astrolabelaw03_QuoDivides.bits10 : waitsOk astrolabelaw03_QuoDivides.T10.2 astrolabelaw03_QuoDivides.B10 = true := by kernel_rfl
set_option maxHeartbeats 8000000 in
set_option maxRecDepth 100000 in
theorem astrolabelaw03_QuoDivides.calls (k : Nat) (A0 : Option Addr) (c0 : Nat) (l0 : List Int) (A1 : Option Addr) (c1 : Nat) (l1 : List Int) (r : Bool) (w : World) (hr0 : Kd.C (Kd.int .u32) w A0 l0.length l0) (hc0 : l0.length ≤ c0) (hr1 : Kd.C (Kd.int .u32) w A1 l1.length l1) (hc1 : l1.length ≤ c1) (h : astrolabelaw03_QuoDivides.f k l0 l1 = some r) :
    Calls Try.prog 3 #[.slice A0 l0.length c0, .slice A1 l1.length c1] w fun e w' => e = .returned (.bool r) ∧ Below w.heap.size w w' := by
  have HR0 := A0_ hr0
  have HC0 := A0_ hc0
  clear hr0 hc0
  have HR1 := A0_ hr1
  have HC1 := A0_ hc1
  clear hr1 hc1
  have HB := A0_ (Below.refl w.heap.size w)
  have H : ((astrolabelaw03_examples.f k).bind fun t566 => (if t566 = true then (if 0 ≤ (mn (l0.length : Int) 40) then (if (mn (l0.length : Int) 40) ≤ (l0.length : Int) then (if 0 ≤ (mn (l1.length : Int) 40) then (if (mn (l1.length : Int) 40) ≤ (l1.length : Int) then ((quo_DivMod.f k (l0.take ((mn (l0.length : Int) 40) : Int).toNat) (l1.take ((mn (l1.length : Int) 40) : Int).toNat)).bind fun bt569 => ((astrolaberef03_DivMod.f k (l0.take ((mn (l0.length : Int) 40) : Int).toNat) (l1.take ((mn (l1.length : Int) 40) : Int).toNat)).bind fun bt576 => ((astrolabelaw03_digits.f k bt569.1 bt576.1).bind fun t583 => ((astrolabelaw03_digits.f k bt569.2.1 bt576.2.1).bind fun t584 => (if 0 ≤ (mn ((l0.take ((mn (l0.length : Int) 40) : Int).toNat).length : Int) 8) then (if (mn ((l0.take ((mn (l0.length : Int) 40) : Int).toNat).length : Int) 8) ≤ ((l0.take ((mn (l0.length : Int) 40) : Int).toNat).length : Int) then (if 0 ≤ (mn ((l1.take ((mn (l1.length : Int) 40) : Int).toNat).length : Int) 8) then (if (mn ((l1.take ((mn (l1.length : Int) 40) : Int).toNat).length : Int) 8) ≤ ((l1.take ((mn (l1.length : Int) 40) : Int).toNat).length : Int) then ((quo_Gcd.f k ((l0.take ((mn (l0.length : Int) 40) : Int).toNat).take ((mn ((l0.take ((mn (l0.length : Int) 40) : Int).toNat).length : Int) 8) : Int).toNat) ((l1.take ((mn (l1.length : Int) 40) : Int).toNat).take ((mn ((l1.take ((mn (l1.length : Int) 40) : Int).toNat).length : Int) 8) : Int).toNat)).bind fun t587 => ((astrolaberef03_Gcd.f k ((l0.take ((mn (l0.length : Int) 40) : Int).toNat).take ((mn ((l0.take ((mn (l0.length : Int) 40) : Int).toNat).length : Int) 8) : Int).toNat) ((l1.take ((mn (l1.length : Int) 40) : Int).toNat).take ((mn ((l1.take ((mn (l1.length : Int) 40) : Int).toNat).length : Int) 8) : Int).toNat)).bind fun t592 => ((astrolabelaw03_digits.f k t587 t592).bind fun t595 => (if t583 = true then (if t584 = true then (if t595 = true then (some (bt569.2.2 == bt576.2.2)) else (none)) else (none)) else (none))))) else (none)) else (none)) else (none)) else (none)))))) else (none)) else (none)) else (none)) else (none)) else (none))) = some r := h
  clear h
  replace H := Option.bind_eq_some_iff.mp H
  obtain ⟨t566, A30, H⟩ := H
  (try dsimp only at H)
  have A3 := A0_ A30
  clear A30
  by_cases c4 : t566 = true
  · subst c4
    have H1 : (if 0 ≤ (mn (l0.length : Int) 40) then (if (mn (l0.length : Int) 40) ≤ (l0.length : Int) then (if 0 ≤ (mn (l1.length : Int) 40) then (if (mn (l1.length : Int) 40) ≤ (l1.length : Int) then ((quo_DivMod.f k (l0.take ((mn (l0.length : Int) 40) : Int).toNat) (l1.take ((mn (l1.length : Int) 40) : Int).toNat)).bind fun bt569 => ((astrolaberef03_DivMod.f k (l0.take ((mn (l0.length : Int) 40) : Int).toNat) (l1.take ((mn (l1.length : Int) 40) : Int).toNat)).bind fun bt576 => ((astrolabelaw03_digits.f k bt569.1 bt576.1).bind fun t583 => ((astrolabelaw03_digits.f k bt569.2.1 bt576.2.1).bind fun t584 => (if 0 ≤ (mn ((l0.take ((mn (l0.length : Int) 40) : Int).toNat).length : Int) 8) then (if (mn ((l0.take ((mn (l0.length : Int) 40) : Int).toNat).length : Int) 8) ≤ ((l0.take ((mn (l0.length : Int) 40) : Int).toNat).length : Int) then (if 0 ≤ (mn ((l1.take ((mn (l1.length : Int) 40) : Int).toNat).length : Int) 8) then (if (mn ((l1.take ((mn (l1.length : Int) 40) : Int).toNat).length : Int) 8) ≤ ((l1.take ((mn (l1.length : Int) 40) : Int).toNat).length : Int) then ((quo_Gcd.f k ((l0.take ((mn (l0.length : Int) 40) : Int).toNat).take ((mn ((l0.take ((mn (l0.length : Int) 40) : Int).toNat).length : Int) 8) : Int).toNat) ((l1.take ((mn (l1.length : Int) 40) : Int).toNat).take ((mn ((l1.take ((mn (l1.length : Int) 40) : Int).toNat).length : Int) 8) : Int).toNat)).bind fun t587 => ((astrolaberef03_Gcd.f k ((l0.take ((mn (l0.length : Int) 40) : Int).toNat).take ((mn ((l0.take ((mn (l0.length : Int) 40) : Int).toNat).length : Int) 8) : Int).toNat) ((l1.take ((mn (l1.length : Int) 40) : Int).toNat).take ((mn ((l1.take ((mn (l1.length : Int) 40) : Int).toNat).length : Int) 8) : Int).toNat)).bind fun t592 => ((astrolabelaw03_digits.f k t587 t592).bind fun t595 => (if t583 = true then (if t584 = true then (if t595 = true then (some (bt569.2.2 == bt576.2.2)) else (none)) else (none)) else (none))))) else (none)) else (none)) else (none)) else (none)))))) else (none)) else (none)) else (none)) else (none)) = some r := by rw [if_pos rfl] at H; exact H
    clear H
    have H := H1
    clear H1
    obtain ⟨ji5, hji5⟩ : ∃ j_ : Int, (mn (l0.length : Int) 40) = j_ := ⟨_, rfl⟩
    (first | rw [hji5] at H | simp only [hji5] at H)
    (try rw [hji5] at A3)
    (try (have hji5h : ji5 ≤ 40 := by (rw [← hji5]; unfold mn; (repeat' split) <;> omega)))
    (try (have hji5g : ji5 ≤ 64 := by omega))
    (try (have hji5l : 0 ≤ ji5 := by (rw [← hji5]; unfold mn; (repeat' split) <;> omega)))
    (try (have hji5m : 0 ≤ ji5 := by omega))
    have hji5_ : (if 40 < (l0.length : Int) then 40 else (l0.length : Int)) = ji5 := hji5
    by_cases c6 : 0 ≤ (ji5)
    case neg => rw [if_neg c6] at H; exact absurd H (by simp)
    rw [if_pos c6] at H
    have c6b0 := eq_true c6
    have c6b1 : decide (0 ≤ (ji5)) = true := decide_eq_true c6
    clear c6
    by_cases c7 : (ji5) ≤ (l0.length : Int)
    case neg => rw [if_neg c7] at H; exact absurd H (by simp)
    rw [if_pos c7] at H
    have c7b0 := eq_true c7
    have c7b1 : decide ((ji5) ≤ (l0.length : Int)) = true := decide_eq_true c7
    clear c7
    obtain ⟨ji8, hji8⟩ : ∃ j_ : Int, (mn (l1.length : Int) 40) = j_ := ⟨_, rfl⟩
    (first | rw [hji8] at H | simp only [hji8] at H)
    (try rw [hji8] at A3)
    (try (have hji8h : ji8 ≤ 40 := by (rw [← hji8]; unfold mn; (repeat' split) <;> omega)))
    (try (have hji8g : ji8 ≤ 64 := by omega))
    (try (have hji8l : 0 ≤ ji8 := by (rw [← hji8]; unfold mn; (repeat' split) <;> omega)))
    (try (have hji8m : 0 ≤ ji8 := by omega))
    have hji8_ : (if 40 < (l1.length : Int) then 40 else (l1.length : Int)) = ji8 := hji8
    by_cases c9 : 0 ≤ (ji8)
    case neg => rw [if_neg c9] at H; exact absurd H (by simp)
    rw [if_pos c9] at H
    have c9b0 := eq_true c9
    have c9b1 : decide (0 ≤ (ji8)) = true := decide_eq_true c9
    clear c9
    by_cases c10 : (ji8) ≤ (l1.length : Int)
    case neg => rw [if_neg c10] at H; exact absurd H (by simp)
    rw [if_pos c10] at H
    have c10b0 := eq_true c10
    have c10b1 : decide ((ji8) ≤ (l1.length : Int)) = true := decide_eq_true c10
    clear c10
    replace H := Option.bind_eq_some_iff.mp H
    obtain ⟨⟨t569, t572, t575⟩, A110, H⟩ := H
    (try dsimp only at H)
    have A11 := A0_ A110
    clear A110
    replace H := Option.bind_eq_some_iff.mp H
    obtain ⟨⟨t576, t577, t578⟩, A120, H⟩ := H
    (try dsimp only at H)
    have A12 := A0_ A120
    clear A120
    replace H := Option.bind_eq_some_iff.mp H
    obtain ⟨t583, A130, H⟩ := H
    (try dsimp only at H)
    have A13 := A0_ A130
    clear A130
    replace H := Option.bind_eq_some_iff.mp H
    obtain ⟨t584, A140, H⟩ := H
    (try dsimp only at H)
    have A14 := A0_ A140
    clear A140
    obtain ⟨ji15, hji15⟩ : ∃ j_ : Int, (mn ((l0.take ((ji5) : Int).toNat).length : Int) 8) = j_ := ⟨_, rfl⟩
    (first | rw [hji15] at H | simp only [hji15] at H)
    (try rw [hji15] at A3)
    (try rw [hji15] at A11)
    (try rw [hji15] at A12)
    (try rw [hji15] at A13)
    (try rw [hji15] at A14)
    have hji15_ : (if 8 < ((l0.take ((ji5) : Int).toNat).length : Int) then 8 else ((l0.take ((ji5) : Int).toNat).length : Int)) = ji15 := hji15
    have hji15le : ji5 ≤ (l0.length : Int) := (by rw [← hji5]; unfold mn; split <;> omega)
    have hji15ge : 0 ≤ ji5 := (by rw [← hji5]; unfold mn; split <;> omega)
    have hji15k : (if 8 < max ji5 0 then 8 else max ji5 0) = ji15 := (by rw [← hji15]; unfold mn; rw [List.length_take]; split <;> split <;> omega)
    have hji15c : (ji15 ≤ (c0 : Int)) = True := eq_true (by have h_ := HC0.out; rw [← hji15k]; split <;> omega)
    by_cases c16 : 0 ≤ (ji15)
    case neg => rw [if_neg c16] at H; exact absurd H (by simp)
    rw [if_pos c16] at H
    have c16b0 := eq_true c16
    have c16b1 : decide (0 ≤ (ji15)) = true := decide_eq_true c16
    clear c16
    by_cases c17 : (ji15) ≤ ((l0.take ((ji5) : Int).toNat).length : Int)
    case neg => rw [if_neg c17] at H; exact absurd H (by simp)
    rw [if_pos c17] at H
    have c17b0 := eq_true c17
    have c17b1 : decide ((ji15) ≤ ((l0.take ((ji5) : Int).toNat).length : Int)) = true := decide_eq_true c17
    clear c17
    obtain ⟨ji18, hji18⟩ : ∃ j_ : Int, (mn ((l1.take ((ji8) : Int).toNat).length : Int) 8) = j_ := ⟨_, rfl⟩
    (first | rw [hji18] at H | simp only [hji18] at H)
    (try rw [hji18] at A3)
    (try rw [hji18] at A11)
    (try rw [hji18] at A12)
    (try rw [hji18] at A13)
    (try rw [hji18] at A14)
    have hji18_ : (if 8 < ((l1.take ((ji8) : Int).toNat).length : Int) then 8 else ((l1.take ((ji8) : Int).toNat).length : Int)) = ji18 := hji18
    have hji18le : ji8 ≤ (l1.length : Int) := (by rw [← hji8]; unfold mn; split <;> omega)
    have hji18ge : 0 ≤ ji8 := (by rw [← hji8]; unfold mn; split <;> omega)
    have hji18k : (if 8 < max ji8 0 then 8 else max ji8 0) = ji18 := (by rw [← hji18]; unfold mn; rw [List.length_take]; split <;> split <;> omega)
    have hji18c : (ji18 ≤ (c1 : Int)) = True := eq_true (by have h_ := HC1.out; rw [← hji18k]; split <;> omega)
    by_cases c19 : 0 ≤ (ji18)
    case neg => rw [if_neg c19] at H; exact absurd H (by simp)
    rw [if_pos c19] at H
    have c19b0 := eq_true c19
    have c19b1 : decide (0 ≤ (ji18)) = true := decide_eq_true c19
    clear c19
    by_cases c20 : (ji18) ≤ ((l1.take ((ji8) : Int).toNat).length : Int)
    case neg => rw [if_neg c20] at H; exact absurd H (by simp)
    rw [if_pos c20] at H
    have c20b0 := eq_true c20
    have c20b1 : decide ((ji18) ≤ ((l1.take ((ji8) : Int).toNat).length : Int)) = true := decide_eq_true c20
    clear c20
    replace H := Option.bind_eq_some_iff.mp H
    obtain ⟨t587, A210, H⟩ := H
    (try dsimp only at H)
    have A21 := A0_ A210
    clear A210
    have c22b0 := eq_true (od_ : 0 ≤ (ji15))
    have c23b0 := eq_true (od_ : (ji15) ≤ ((l0.take ((ji5) : Int).toNat).length : Int))
    have c24b0 := eq_true (od_ : 0 ≤ (ji18))
    have c25b0 := eq_true (od_ : (ji18) ≤ ((l1.take ((ji8) : Int).toNat).length : Int))
    replace H := Option.bind_eq_some_iff.mp H
    obtain ⟨t592, A260, H⟩ := H
    (try dsimp only at H)
    have A26 := A0_ A260
    clear A260
    replace H := Option.bind_eq_some_iff.mp H
    obtain ⟨t595, A270, H⟩ := H
    (try dsimp only at H)
    have A27 := A0_ A270
    clear A270
    by_cases c28 : t583 = true
    · subst c28
      have H1 : (if t584 = true then (if t595 = true then (some (t575 == t578)) else (none)) else (none)) = some r := by rw [if_pos rfl] at H; exact H
      clear H
      have H := H1
      clear H1
      by_cases c29 : t584 = true
      · subst c29
        have H1 : (if t595 = true then (some (t575 == t578)) else (none)) = some r := by rw [if_pos rfl] at H; exact H
        clear H
        have H := H1
        clear H1
        by_cases c30 : t595 = true
        · subst c30
          have H1 : (some (t575 == t578)) = some r := by rw [if_pos rfl] at H; exact H
          clear H
          have H := H1
          clear H1
          obtain rfl := Option.some.inj H
          go_enter Try.func3, Try.ntmps3
          try go_wp2_with (first | ((with_reducible refine gate_callee (f := 11) rfl ?_); refine goesM_ (some 15) Try.func11 #[] rfl ?_; (with_reducible refine (astrolabelaw03_examples.calls k  true _ A3.out).mono ?_); rintro e w31 ⟨rfl, hb⟩; refine ⟨_, rfl, ?_⟩; have n0_ := A0_ (below_step bl_ hb); clear HB; have HB := n0_; clear n0_; (try clear hb); (try clear hb2); (try clear hk); (try clear hi); obtain ⟨i032, hi032, _, hsz32, _⟩ := info_parts info37; obtain ⟨hcut32, hA32, hC32⟩ := print_take_of (P := Try.prog) (Value.int .u32) 0 22 37 .i64 Try.underlying22 hi032 hsz32 A0 c0 l0 (ji5) od_ od_ HC0.out; have HR567 := A0_ (Kd.C_of_reads (h1 := fun _ => rfl) (hA32 _ (Kd.reads_of_C HR0.out))); have HC567 := A0_ hC32; clear hA32 hC32 hi032 hsz32; obtain ⟨i033, hi033, _, hsz33, _⟩ := info_parts info37; obtain ⟨hcut33, hA33, hC33⟩ := print_take_of (P := Try.prog) (Value.int .u32) 0 22 37 .i64 Try.underlying22 hi033 hsz33 A1 c1 l1 (ji8) od_ od_ HC1.out; have HR568 := A0_ (Kd.C_of_reads (h1 := fun _ => rfl) (hA33 _ (Kd.reads_of_C HR1.out))); have HC568 := A0_ hC33; clear hA33 hC33 hi033 hsz33) | ((with_reducible refine gate_callee (f := 12) rfl ?_); refine goesM_ (some 31) Try.func12 #[.slice A0 (l0.take ((ji5) : Int).toNat).length c0, .slice A1 (l1.take ((ji8) : Int).toNat).length c1] rfl ?_ (by (try simp only [List.map_toArray, List.map_cons, List.map_nil]); first | done | (rw [show (l0.take ((ji5) : Int).toNat).length = (ji5).toNat from (by rw [List.length_take]; have h_ : ((ji5) : Int) ≤ (l0.length : Int) := (by first | exact od_ | (rw [← hji5]; unfold mn; split <;> omega)); omega)] <;> rfl) | (rw [show (l1.take ((ji8) : Int).toNat).length = (ji8).toNat from (by rw [List.length_take]; have h_ : ((ji8) : Int) ≤ (l1.length : Int) := (by first | exact od_ | (rw [← hji8]; unfold mn; split <;> omega)); omega)] <;> rfl) | (rw [show (l0.take ((ji5) : Int).toNat).length = (ji5).toNat from (by rw [List.length_take]; have h_ : ((ji5) : Int) ≤ (l0.length : Int) := (by first | exact od_ | (rw [← hji5]; unfold mn; split <;> omega)); omega), show (l1.take ((ji8) : Int).toNat).length = (ji8).toNat from (by rw [List.length_take]; have h_ : ((ji8) : Int) ≤ (l1.length : Int) := (by first | exact od_ | (rw [← hji8]; unfold mn; split <;> omega)); omega)] <;> rfl) | (simp only [hji5, hji8]; rfl) | rfl | (simp only [List.length_drop, List.length_take]; rfl)); (with_reducible refine (quo_DivMod.calls k _ _ (l0.take ((ji5) : Int).toNat) _ _ (l1.take ((ji8) : Int).toNat) t569 t572 t575 _ ?side1 ?side2 ?side3 ?side4 A11.out).mono ?_); (case side1 => exact mvC (Kd.C_below HR567.out HB.out)); (case side2 => exact HC567.out); (case side3 => exact mvC (Kd.C_below HR568.out HB.out)); (case side4 => exact HC568.out); rintro e w34 ⟨v570, v573, rfl, ho0, ho1, hb⟩; refine ⟨_, rfl, ?_⟩; have n0_ := A0_ (Kd.R_lower (Kd.R_mono (ok' := fun k_ => True) ho0 (fun _ hk_ => trivial)) (below_size bl_)); have n1_ := A0_ (Kd.V_lower (Kd.V_mono (ok' := fun k_ => some k_ ≠ (v570 : Value).ownBlock) ho1 (fun k_ hk_ => hk_.2)) (below_size bl_)); have n2_ := A0_ (below_step bl_ hb); clear HB; have HO571 := n0_; have HO574 := n1_; have HB := n2_; clear n0_ n1_ n2_; (try clear hb); (try clear hb2); (try clear hk); (try clear hi); (try clear ho0); (try clear ho1)) | ((with_reducible refine gate_callee (f := 13) rfl ?_); refine goesM_ (some 38) Try.func13 #[.slice A0 (l0.take ((ji5) : Int).toNat).length c0, .slice A1 (l1.take ((ji8) : Int).toNat).length c1] rfl ?_ (by (try simp only [List.map_toArray, List.map_cons, List.map_nil]); first | done | (rw [show (l0.take ((ji5) : Int).toNat).length = (ji5).toNat from (by rw [List.length_take]; have h_ : ((ji5) : Int) ≤ (l0.length : Int) := (by first | exact od_ | (rw [← hji5]; unfold mn; split <;> omega)); omega)] <;> rfl) | (rw [show (l1.take ((ji8) : Int).toNat).length = (ji8).toNat from (by rw [List.length_take]; have h_ : ((ji8) : Int) ≤ (l1.length : Int) := (by first | exact od_ | (rw [← hji8]; unfold mn; split <;> omega)); omega)] <;> rfl) | (rw [show (l0.take ((ji5) : Int).toNat).length = (ji5).toNat from (by rw [List.length_take]; have h_ : ((ji5) : Int) ≤ (l0.length : Int) := (by first | exact od_ | (rw [← hji5]; unfold mn; split <;> omega)); omega), show (l1.take ((ji8) : Int).toNat).length = (ji8).toNat from (by rw [List.length_take]; have h_ : ((ji8) : Int) ≤ (l1.length : Int) := (by first | exact od_ | (rw [← hji8]; unfold mn; split <;> omega)); omega)] <;> rfl) | (simp only [hji5, hji8]; rfl) | rfl | (simp only [List.length_drop, List.length_take]; rfl)); (with_reducible refine (astrolaberef03_DivMod.calls k _ _ (l0.take ((ji5) : Int).toNat) _ _ (l1.take ((ji8) : Int).toNat) t576 t577 t578 _ ?side1 ?side2 ?side3 ?side4 A12.out).mono ?_); (case side1 => exact mvC (Kd.C_below HR567.out HB.out)); (case side2 => exact HC567.out); (case side3 => exact mvC (Kd.C_below HR568.out HB.out)); (case side4 => exact HC568.out); rintro e w35 ⟨v579, v581, rfl, ho0, ho1, hb⟩; refine ⟨_, rfl, ?_⟩; have n0_ := A0_ (Kd.R_mono (Kd.R_told (Kd.R_told (Kd.R_old (mvR HO571.out) hb) (Kd.R_base ho0)) (Kd.R_base ho1)) (fun _ h_ => h_.1)); have n1_ := A0_ (Kd.V_mono (Kd.V_told (Kd.V_told (Kd.V_old (mvV HO574.out) hb) (Kd.R_base ho0)) (Kd.R_base ho1)) (fun _ h_ => h_.1)); have n2_ := A0_ (Kd.R_lower (Kd.R_new' ho0 (Kd.R_lt (mvR HO571.out))) (below_size bl_)); have n3_ := A0_ (Kd.R_lower (Kd.R_new' ho1 (Kd.R_lt (mvR HO571.out))) (below_size bl_)); have n4_ := A0_ (below_step bl_ hb); clear HO571; clear HO574; clear HB; have HO571 := n0_; have HO574 := n1_; have HO580 := n2_; have HO582 := n3_; have HB := n4_; clear n0_ n1_ n2_ n3_ n4_; (try clear hb); (try clear hb2); (try clear hk); (try clear hi); (try clear ho0); (try clear ho1); obtain ⟨Ao36, co36, eo36⟩ := Kd.R_slice HO571.out; subst eo36; obtain ⟨Ao37, co37, eo37⟩ := Kd.R_slice HO580.out; subst eo37) | ((with_reducible refine gate_callee (f := 14) rfl ?_); refine goesM_ (some 44) Try.func14 #[.slice Ao36 t569.length co36, .slice Ao37 t576.length co37] rfl ?_; (with_reducible refine (astrolabelaw03_digits.calls k _ _ t569 _ _ t576 true _ ?side1 ?side2 ?side3 ?side4 A13.out).mono ?_); (case side1 => exact mvC (Kd.R_reads' HO571.out).2.2); (case side2 => exact (Kd.R_reads' HO571.out).2.1); (case side3 => exact mvC (Kd.R_reads' HO580.out).2.2); (case side4 => exact (Kd.R_reads' HO580.out).2.1); rintro e w' ⟨rfl, ⟨nd, rfl⟩⟩; refine ⟨_, rfl, ?_⟩; obtain ⟨Ao38, co38, eo38⟩ := Kd.V_slice HO574.out; subst eo38; obtain ⟨Ao39, co39, eo39⟩ := Kd.R_slice HO582.out; subst eo39) | ((with_reducible refine gate_callee (f := 14) rfl ?_); refine goesM_ (some 47) Try.func14 #[.slice Ao38 t572.length co38, .slice Ao39 t577.length co39] rfl ?_; (with_reducible refine (astrolabelaw03_digits.calls k _ _ t572 _ _ t577 true _ ?side1 ?side2 ?side3 ?side4 A14.out).mono ?_); (case side1 => exact mvC (Kd.V_reads' HO574.out).2.2); (case side2 => exact (Kd.V_reads' HO574.out).2.1); (case side3 => exact mvC (Kd.R_reads' HO582.out).2.2); (case side4 => exact (Kd.R_reads' HO582.out).2.1); rintro e w' ⟨rfl, ⟨nd, rfl⟩⟩; refine ⟨_, rfl, ?_⟩))
          (try (rw [drewN_self w35]; generalize hq_ : World.drewN w35 _ = w35; have n0_ : Aside0 (Kd.R (Kd.int .u32) 37 w35 w.heap.size (fun k_ => some k_ ≠ (.slice Ao37 t576.length co37 : Value).ownBlock ∧ some k_ ≠ (.slice Ao39 t577.length co39 : Value).ownBlock) (.slice Ao36 t569.length co36) t569) := ⟨by rw [← hq_]; exact (mvR (Kd.R_mono HO571.out (fun _ hk => ⟨hk.1.2, hk.2⟩)))⟩; have n1_ : Aside0 (Kd.V (Kd.int .u32) 37 w35 w.heap.size (fun k_ => some k_ ≠ (.slice Ao36 t569.length co36 : Value).ownBlock ∧ some k_ ≠ (.slice Ao37 t576.length co37 : Value).ownBlock ∧ some k_ ≠ (.slice Ao39 t577.length co39 : Value).ownBlock) (.slice Ao38 t572.length co38) t572) := ⟨by rw [← hq_]; exact (mvV (Kd.V_mono HO574.out (fun _ hk => ⟨hk.1.1, ⟨hk.1.2, hk.2⟩⟩)))⟩; have n2_ : Aside0 (Kd.R (Kd.int .u32) 37 w35 w.heap.size (fun k_ => some k_ ≠ (.slice Ao36 t569.length co36 : Value).ownBlock ∧ some k_ ≠ (.slice Ao39 t577.length co39 : Value).ownBlock) (.slice Ao37 t576.length co37) t576) := ⟨by rw [← hq_]; exact (mvR (Kd.R_mono HO580.out (fun _ hk => ⟨hk.2, hk.1⟩)))⟩; have n3_ : Aside0 (Kd.R (Kd.int .u32) 37 w35 w.heap.size (fun k_ => some k_ ≠ (.slice Ao36 t569.length co36 : Value).ownBlock ∧ some k_ ≠ (.slice Ao37 t576.length co37 : Value).ownBlock) (.slice Ao39 t577.length co39) t577) := ⟨by rw [← hq_]; exact (mvR (Kd.R_mono HO582.out (fun _ hk => ⟨hk.2, hk.1⟩)))⟩; have n4_ : Aside0 (Below w.heap.size w w35) := ⟨by rw [← hq_]; exact bl_⟩; clear HO571 HO574 HO580 HO582 HB hq_; have HO571 := n0_; have HO574 := n1_; have HO580 := n2_; have HO582 := n3_; have HB := n4_; clear n0_ n1_ n2_ n3_ n4_))
          have n0_ := A0_ (Kd.R_drew HO571.out)
          have n1_ := A0_ (Kd.V_drew HO574.out)
          have n2_ := A0_ (Kd.R_drew HO580.out)
          have n3_ := A0_ (Kd.R_drew HO582.out)
          have n4_ := A0_ (below_drew1 HB.out)
          clear HO571
          clear HO574
          clear HO580
          clear HO582
          clear HB
          have HO571 := n0_
          have HO574 := n1_
          have HO580 := n2_
          have HO582 := n3_
          have HB := n4_
          clear n0_ n1_ n2_ n3_ n4_
          obtain ⟨i041, hi041, _, hsz41, _⟩ := info_parts info37
          obtain ⟨hcut41, hA41, hC41⟩ := print_take_of (P := Try.prog) (Value.int .u32) 0 22 37 .i64 Try.underlying22 hi041 hsz41 A0 c0 (l0.take ((ji5) : Int).toNat) (ji15) od_ od_ HC567.out
          have HR585 := A0_ (Kd.C_of_reads (h1 := fun _ => rfl) (hA41 _ (Kd.reads_of_C HR567.out)))
          have HC585 := A0_ hC41
          clear hA41 hC41 hi041 hsz41
          obtain ⟨i042, hi042, _, hsz42, _⟩ := info_parts info37
          obtain ⟨hcut42, hA42, hC42⟩ := print_take_of (P := Try.prog) (Value.int .u32) 0 22 37 .i64 Try.underlying22 hi042 hsz42 A1 c1 (l1.take ((ji8) : Int).toNat) (ji18) od_ od_ HC568.out
          have HR586 := A0_ (Kd.C_of_reads (h1 := fun _ => rfl) (hA42 _ (Kd.reads_of_C HR568.out)))
          have HC586 := A0_ hC42
          clear hA42 hC42 hi042 hsz42
          obtain ⟨i043, hi043, _, hsz43, _⟩ := info_parts info37
          obtain ⟨hcut43, hA43, hC43⟩ := print_take_of (P := Try.prog) (Value.int .u32) 0 22 37 .i64 Try.underlying22 hi043 hsz43 A0 c0 (l0.take ((ji5) : Int).toNat) (ji15) od_ od_ HC567.out
          have HR590 := A0_ (Kd.C_of_reads (h1 := fun _ => rfl) (hA43 _ (Kd.reads_of_C HR567.out)))
          have HC590 := A0_ hC43
          clear hA43 hC43 hi043 hsz43
          obtain ⟨i044, hi044, _, hsz44, _⟩ := info_parts info37
          obtain ⟨hcut44, hA44, hC44⟩ := print_take_of (P := Try.prog) (Value.int .u32) 0 22 37 .i64 Try.underlying22 hi044 hsz44 A1 c1 (l1.take ((ji8) : Int).toNat) (ji18) od_ od_ HC568.out
          have HR591 := A0_ (Kd.C_of_reads (h1 := fun _ => rfl) (hA44 _ (Kd.reads_of_C HR568.out)))
          have HC591 := A0_ hC44
          clear hA44 hC44 hi044 hsz44
          refine start_ (n := 24) (S := fun w' => True) (ds := []) #[false, false, false, false, false, false, false, false, false, false, false, false, false, false, false, false, false, false, false, false, false, false, false, false] (by kernel_rfl) rfl rfl trivial (fun hHeld => ?_); refine with_tabW astrolabelaw03_QuoDivides.tab10 astrolabelaw03_QuoDivides.bits10 (fun HT_ HW_ => ?_)
          generalize w35.drew = w40 at HO571 HO574 HO580 HO582 HB HR585 HR586 HR590 HR591 hHeld ⊢
          refine pureM_ 0 (some 48) (any_of HT_.out (by kernel_rfl)) ?_
          refine pureM_ 1 (some 49) (any_of HT_.out (by kernel_rfl)) ?_
          refine pureM_ 2 (some 50) (any_of HT_.out (by kernel_rfl)) ?_
          refine pureM_ 3 (some 51) (any_of HT_.out (by kernel_rfl)) ?_
          refine pureM_ 4 (some 52) (any_of HT_.out (by kernel_rfl)) ?_
          refine pureM_ 5 (some 53) (any_of HT_.out (by kernel_rfl)) ?_
          refine pureM_ 6 (some 54) (any_of HT_.out (by kernel_rfl)) ?_
          refine pureM_ 7 (some 55) (any_of HT_.out (by kernel_rfl)) ?_
          refine pureM_ 8 (some 56) (any_of HT_.out (by kernel_rfl)) ?_
          refine pureM_ 9 (some 57) (any_of HT_.out (by kernel_rfl)) ?_
          refine pureM_ 11 (some 59) (any_of HT_.out (by kernel_rfl)) ?_
          refine pureM_ 12 (some 60) (any_of HT_.out (by kernel_rfl)) ?_
          refine pureM_ 13 (some 61) (any_of HT_.out (by kernel_rfl)) ?_
          refine pureM_ 14 (some 62) (any_of HT_.out (by kernel_rfl)) ?_
          refine pureM_ 15 (some 63) (any_of HT_.out (by kernel_rfl)) ?_
          refine pureM_ 16 (some 64) (any_of HT_.out (by kernel_rfl)) ?_
          refine pureM_ 17 (some 65) (any_of HT_.out (by kernel_rfl)) ?_
          refine pureM_ 18 (some 66) (any_of HT_.out (by kernel_rfl)) ?_
          refine pureM_ 19 (some 67) (any_of HT_.out (by kernel_rfl)) ?_
          refine pureM_ 20 (some 68) (any_of HT_.out (by kernel_rfl)) ?_
          refine one_ (i := 10) (N := some 58) #[true, true, true, true, true, true, true, true, true, true, true, true, true, true, true, true, true, true, true, true, true, false, false, false] rfl rfl (one_of HT_.out (by kernel_rfl)) (by decide) (fun K hK => ?_)
          refine goes_ Try.func15 (by kernel_rfl) rfl #[.slice A0 ((l0.take ((ji5) : Int).toNat).take ((ji15) : Int).toNat).length c0, .slice A1 ((l1.take ((ji8) : Int).toNat).take ((ji18) : Int).toNat).length c1] (by rfl) rfl rfl (by (try simp only [List.map_toArray, List.map_cons, List.map_nil]); first | done | (rw [show ((l0.take ((ji5) : Int).toNat).take ((ji15) : Int).toNat).length = (ji15).toNat from (by rw [List.length_take]; have h_ : ((ji15) : Int) ≤ ((l0.take ((ji5) : Int).toNat).length : Int) := (by first | exact od_ | (rw [← hji15]; unfold mn; split <;> omega)); omega)] <;> rfl) | (rw [show ((l1.take ((ji8) : Int).toNat).take ((ji18) : Int).toNat).length = (ji18).toNat from (by rw [List.length_take]; have h_ : ((ji18) : Int) ≤ ((l1.take ((ji8) : Int).toNat).length : Int) := (by first | exact od_ | (rw [← hji18]; unfold mn; split <;> omega)); omega)] <;> rfl) | (rw [show ((l0.take ((ji5) : Int).toNat).take ((ji15) : Int).toNat).length = (ji15).toNat from (by rw [List.length_take]; have h_ : ((ji15) : Int) ≤ ((l0.take ((ji5) : Int).toNat).length : Int) := (by first | exact od_ | (rw [← hji15]; unfold mn; split <;> omega)); omega), show ((l1.take ((ji8) : Int).toNat).take ((ji18) : Int).toNat).length = (ji18).toNat from (by rw [List.length_take]; have h_ : ((ji18) : Int) ≤ ((l1.take ((ji8) : Int).toNat).length : Int) := (by first | exact od_ | (rw [← hji18]; unfold mn; split <;> omega)); omega)] <;> rfl) | (simp only [hji15, hji18, hji5, hji8]; rfl) | rfl | (simp only [List.length_drop, List.length_take]; rfl)) ?_
          with_reducible refine (quo_Gcd.calls k _ _ ((l0.take ((ji5) : Int).toNat).take ((ji15) : Int).toNat) _ _ ((l1.take ((ji8) : Int).toNat).take ((ji18) : Int).toNat) t587 _ ?side1 ?side2 ?side3 ?side4 A21.out).mono ?_
          (case side1 => exact mvC (Kd.C_below HR585.out HB.out))
          (case side2 => exact HC585.out)
          (case side3 => exact mvC (Kd.C_below HR586.out HB.out))
          (case side4 => exact HC586.out)
          rintro e w45 ⟨v588, rfl, ho0, hb⟩
          refine ⟨_, rfl, ?_⟩
          have n0_ := A0_ (Kd.R_below (mvR HO571.out) hb)
          have n1_ := A0_ (Kd.V_below (mvV HO574.out) hb)
          have n2_ := A0_ (Kd.R_below (mvR HO580.out) hb)
          have n3_ := A0_ (Kd.R_below (mvR HO582.out) hb)
          have n4_ := A0_ (Kd.V_lower (Kd.V_mono (ok' := fun k_ => some k_ ≠ (.slice Ao36 t569.length co36 : Value).ownBlock ∧ some k_ ≠ (.slice Ao37 t576.length co37 : Value).ownBlock ∧ some k_ ≠ (.slice Ao39 t577.length co39 : Value).ownBlock) ho0 (fun k_ hk_ => ⟨(Kd.fresh' (Kd.R_lt (mvR HO571.out)) k_ hk_), (Kd.fresh' (Kd.R_lt (mvR HO580.out)) k_ hk_), (Kd.fresh' (Kd.R_lt (mvR HO582.out)) k_ hk_)⟩)) (below_size bl_))
          have n5_ := A0_ (below_step bl_ hb)
          clear HO571
          clear HO574
          clear HO580
          clear HO582
          clear HB
          have HO571 := n0_
          have HO574 := n1_
          have HO580 := n2_
          have HO582 := n3_
          have HO589 := n4_
          have HB := n5_
          clear n0_ n1_ n2_ n3_ n4_ n5_
          (try clear hb)
          (try clear hb2)
          (try clear hk)
          (try clear hi)
          (try clear ho0)
          refine hK.out _ _ trivial (fun hHeld => ?_)
          clear hK K
          refine norm_ (a' := ?_) ?_ ?_
          rotate_left
          · show Act.put _ (some 58) _ = _
            simp only [Act.put, List.setIfInBounds_toArray, List.set_cons_zero, List.set_cons_succ, i64_w, i32_w]
            rfl
          refine one_ (i := 21) (N := some 69) #[true, true, true, true, true, true, true, true, true, true, true, true, true, true, true, true, true, true, true, true, true, true, false, false] rfl rfl (one_of HT_.out (by kernel_rfl)) (by decide) (fun K hK => ?_)
          refine goes_ Try.func16 (by kernel_rfl) rfl #[.slice A0 ((l0.take ((ji5) : Int).toNat).take ((ji15) : Int).toNat).length c0, .slice A1 ((l1.take ((ji8) : Int).toNat).take ((ji18) : Int).toNat).length c1] (by rfl) rfl rfl (by (try simp only [List.map_toArray, List.map_cons, List.map_nil]); first | done | (rw [show ((l0.take ((ji5) : Int).toNat).take ((ji15) : Int).toNat).length = (ji15).toNat from (by rw [List.length_take]; have h_ : ((ji15) : Int) ≤ ((l0.take ((ji5) : Int).toNat).length : Int) := (by first | exact od_ | (rw [← hji15]; unfold mn; split <;> omega)); omega)] <;> rfl) | (rw [show ((l1.take ((ji8) : Int).toNat).take ((ji18) : Int).toNat).length = (ji18).toNat from (by rw [List.length_take]; have h_ : ((ji18) : Int) ≤ ((l1.take ((ji8) : Int).toNat).length : Int) := (by first | exact od_ | (rw [← hji18]; unfold mn; split <;> omega)); omega)] <;> rfl) | (rw [show ((l0.take ((ji5) : Int).toNat).take ((ji15) : Int).toNat).length = (ji15).toNat from (by rw [List.length_take]; have h_ : ((ji15) : Int) ≤ ((l0.take ((ji5) : Int).toNat).length : Int) := (by first | exact od_ | (rw [← hji15]; unfold mn; split <;> omega)); omega), show ((l1.take ((ji8) : Int).toNat).take ((ji18) : Int).toNat).length = (ji18).toNat from (by rw [List.length_take]; have h_ : ((ji18) : Int) ≤ ((l1.take ((ji8) : Int).toNat).length : Int) := (by first | exact od_ | (rw [← hji18]; unfold mn; split <;> omega)); omega)] <;> rfl) | (simp only [hji15, hji18, hji5, hji8]; rfl) | rfl | (simp only [List.length_drop, List.length_take]; rfl)) ?_
          with_reducible refine (astrolaberef03_Gcd.calls k _ _ ((l0.take ((ji5) : Int).toNat).take ((ji15) : Int).toNat) _ _ ((l1.take ((ji8) : Int).toNat).take ((ji18) : Int).toNat) t592 _ ?side1 ?side2 ?side3 ?side4 A26.out).mono ?_
          (case side1 => exact mvC (Kd.C_below HR590.out HB.out))
          (case side2 => exact HC590.out)
          (case side3 => exact mvC (Kd.C_below HR591.out HB.out))
          (case side4 => exact HC591.out)
          rintro e w46 ⟨v593, rfl, ho0, hb⟩
          refine ⟨_, rfl, ?_⟩
          have n0_ := A0_ (Kd.R_elder' (mvR HO571.out) (Kd.R_base ho0) hb)
          have n1_ := A0_ (Kd.V_elder' (mvV HO574.out) (Kd.R_base ho0) hb)
          have n2_ := A0_ (Kd.R_elder' (mvR HO580.out) (Kd.R_base ho0) hb)
          have n3_ := A0_ (Kd.R_elder' (mvR HO582.out) (Kd.R_base ho0) hb)
          have n4_ := A0_ (Kd.V_elder' (mvV HO589.out) (Kd.R_base ho0) hb)
          have n5_ := A0_ (Kd.R_lower (Kd.R_new' (Kd.R_new' (Kd.R_new' ho0 (Kd.R_lt (mvR HO571.out))) (Kd.R_lt (mvR HO580.out))) (Kd.R_lt (mvR HO582.out))) (below_size bl_))
          have n6_ := A0_ (below_step bl_ hb)
          clear HO571
          clear HO574
          clear HO580
          clear HO582
          clear HO589
          clear HB
          have HO571 := n0_
          have HO574 := n1_
          have HO580 := n2_
          have HO582 := n3_
          have HO589 := n4_
          have HO594 := n5_
          have HB := n6_
          clear n0_ n1_ n2_ n3_ n4_ n5_ n6_
          (try clear hb)
          (try clear hb2)
          (try clear hk)
          (try clear hi)
          (try clear ho0)
          obtain ⟨Ao47, co47, eo47⟩ := Kd.V_slice HO589.out
          (first | subst eo47 | (injection eo47 with f1_ f2_ f3_; have f4_ := f1_.symm; have f5_ := f3_.symm; clear f1_ f2_ f3_; subst f4_; subst f5_))
          obtain ⟨Ao48, co48, eo48⟩ := Kd.R_slice HO594.out
          (first | subst eo48 | (injection eo48 with f1_ f2_ f3_; have f4_ := f1_.symm; have f5_ := f3_.symm; clear f1_ f2_ f3_; subst f4_; subst f5_))
          refine hK.out _ _ trivial (fun hHeld => ?_)
          clear hK K
          refine norm_ (a' := ?_) ?_ ?_
          rotate_left
          · show Act.put _ (some 69) _ = _
            simp only [Act.put, List.setIfInBounds_toArray, List.set_cons_zero, List.set_cons_succ, i64_w, i32_w]
            rfl
          refine one_ (i := 22) (N := some 70) #[true, true, true, true, true, true, true, true, true, true, true, true, true, true, true, true, true, true, true, true, true, true, true, false] rfl rfl (one_of HT_.out (by kernel_rfl)) (by decide) (fun K hK => ?_)
          refine goes_ Try.func14 (by kernel_rfl) rfl #[.slice Ao47 t587.length co47, .slice Ao48 t592.length co48] (by rfl) rfl rfl (by (try simp only [List.map_toArray, List.map_cons, List.map_nil]); first | done | rfl | (simp only [List.length_drop, List.length_take]; rfl)) ?_
          with_reducible refine (astrolabelaw03_digits.calls k _ _ t587 _ _ t592 true _ ?side1 ?side2 ?side3 ?side4 A27.out).mono ?_
          (case side1 => exact mvC (Kd.V_reads' HO589.out).2.2)
          (case side2 => exact (Kd.V_reads' HO589.out).2.1)
          (case side3 => exact mvC (Kd.R_reads' HO594.out).2.2)
          (case side4 => exact (Kd.R_reads' HO594.out).2.1)
          rintro e w' ⟨rfl, ⟨nd, rfl⟩⟩
          refine ⟨_, rfl, ?_⟩
          refine hK.out _ _ trivial (fun hHeld => ?_)
          clear hK K
          refine norm_ (a' := ?_) ?_ ?_
          rotate_left
          · show Act.put _ (some 70) _ = _
            simp only [Act.put, List.setIfInBounds_toArray, List.set_cons_zero, List.set_cons_succ, i64_w, i32_w]
            rfl
          refine pureM_ 23 (some 14) (any_of HT_.out (by kernel_rfl)) ?_
          refine done_ (done_of HT_.out (by kernel_rfl)) ?_
          try go_wp2
          go_ret
          exact ⟨by first | rfl | (simp [errW_none, errW_some] <;> rfl) | (simp only [← hji5, ← hji8, ← hji15, ← hji18]; first | rfl | (simp [errW_none, errW_some] <;> rfl)) | (simp [*, errW_none, errW_some] <;> rfl), bl_⟩
        · replace c30 := Bool.eq_false_iff.mpr c30
          subst c30
          have H1 : (none) = some r := by rw [if_neg (show ¬ (false = true) by decide)] at H; exact H
          clear H
          have H := H1
          clear H1
          exact absurd H (by simp)
      · replace c29 := Bool.eq_false_iff.mpr c29
        subst c29
        have H1 : (none) = some r := by rw [if_neg (show ¬ (false = true) by decide)] at H; exact H
        clear H
        have H := H1
        clear H1
        exact absurd H (by simp)
    · replace c28 := Bool.eq_false_iff.mpr c28
      subst c28
      have H1 : (none) = some r := by rw [if_neg (show ¬ (false = true) by decide)] at H; exact H
      clear H
      have H := H1
      clear H1
      exact absurd H (by simp)
  · replace c4 := Bool.eq_false_iff.mpr c4
    subst c4
    have H1 : (none) = some r := by rw [if_neg (show ¬ (false = true) by decide)] at H; exact H
    clear H
    have H := H1
    clear H1
    exact absurd H (by simp)

/-- THE ONE PURE STATEMENT of astrolabelaw03_QuoDivides: yours. -/
def astrolabelaw03_QuoDivides.Pure : Prop := ∀ (l0 : List Int) (l1 : List Int), l0.length ≤ maxLen → l0.length * 4 ≤ 140737488351232 → (∀ x ∈ l0, (Lit.int .u32 x).wf = true) → l1.length ≤ maxLen → l1.length * 4 ≤ 140737488351232 → (∀ x ∈ l1, (Lit.int .u32 x).wf = true) → ∃ k, astrolabelaw03_QuoDivides.f k l0 l1 = some true
theorem astrolabelaw03_QuoDivides.walk (P : astrolabelaw03_QuoDivides.Pure) (a0 : Option Addr) (len0 cap0 : Nat) (z0 : List Int) (a1 : Option Addr) (len1 cap1 : Nat) (z1 : List Int) (w : World) (w0 : (a0 = none ∧ len0 = 0 ∧ cap0 = 0 ∧ z0 = []) ∨ ∃ x, a0 = some x ∧ len0 ≤ cap0 ∧ cap0 ≤ maxLen ∧ z0.length = cap0 ∧ (∀ i, i < z0.length → w.cell? (x.add i) = some (.int .u32 (z0.getD i 0))) ∧ ∀ n ∈ z0, (Lit.int .u32 n).wf = true) (y0 : len0 * 4 ≤ 140737488351232) (w1 : (a1 = none ∧ len1 = 0 ∧ cap1 = 0 ∧ z1 = []) ∨ ∃ x, a1 = some x ∧ len1 ≤ cap1 ∧ cap1 ≤ maxLen ∧ z1.length = cap1 ∧ (∀ i, i < z1.length → w.cell? (x.add i) = some (.int .u32 (z1.getD i 0))) ∧ ∀ n ∈ z1, (Lit.int .u32 n).wf = true) (y1 : len1 * 4 ≤ 140737488351232) :
    Calls Try.prog 3 #[.slice a0 len0 cap0, .slice a1 len1 cap1] w fun e w' => e = .returned (.bool true) ∧ Below w.heap.size w w' := by
  obtain ⟨l0, rfl, hr0, hm0, hw0, hc0⟩ := ReadsInt.ofRowC w0
  obtain ⟨l1, rfl, hr1, hm1, hw1, hc1⟩ := ReadsInt.ofRowC w1
  obtain ⟨k, h⟩ := P l0 l1 hm0 y0 hw0 hm1 y1 hw1
  refine (astrolabelaw03_QuoDivides.calls k _ _ l0 _ _ l1 true w (Kd.C_of_reads (d := (0 : Int)) (h1 := fun _ => rfl) hr0) hc0 (Kd.C_of_reads (d := (0 : Int)) (h1 := fun _ => rfl) hr1) hc1 h).mono ?_
  rintro e w' ⟨rfl, hd⟩
  exact ⟨rfl, hd⟩

end Go.Proofs.Ytohkjfdcmiiehaa.P
