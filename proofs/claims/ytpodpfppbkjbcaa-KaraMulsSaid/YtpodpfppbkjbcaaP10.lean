/- What the Go functions of these names come to, as plain Lean functions, and the walks that show it. Written for this claim by a turned copy of the print program; Lean checks it. -/
import Derived.Test.YtpodpfppbkjbcaaP0
import Derived.Test.YtpodpfppbkjbcaaP5
import Derived.Test.YtpodpfppbkjbcaaP7
import Derived.Test.YtpodpfppbkjbcaaP8
namespace Go.Proofs.Ytpodpfppbkjbcaa.P
open Go.RowKit Go.Proofs.YtpodpfppbkjbcaaW.PrintWords Go.Proofs.YtpodpfppbkjbcaaW.PrintLast Go.Proofs.YtpodpfppbkjbcaaW.PrintMore
attribute [local go_sem] max2_int min2_int max_two min_two max_three min_three max_four min_four   -- for this text's walks alone
set_option linter.unusedVariables false
set_option linter.unusedSimpArgs false

/-! ### astrolabelaw02_KaraMuls: function 4 -/
def astrolabelaw02_KaraMuls.f (k : Nat) (l0 : List Int) (l1 : List Int) (a2 : Int) : Option (Bool) := (astrolabelaw02_examples.f k).bind fun t296 => (if t296 = true then (if 0 ≤ (mn (l0.length : Int) 80) then (if (mn (l0.length : Int) 80) ≤ (l0.length : Int) then (if 0 ≤ (mn (l1.length : Int) 80) then (if (mn (l1.length : Int) 80) ≤ (l1.length : Int) then ((kara_Mul.f k (l0.take ((mn (l0.length : Int) 80) : Int).toNat) (l1.take ((mn (l1.length : Int) 80) : Int).toNat)).bind fun t299 => ((astrolaberef02_Mul.f k (l0.take ((mn (l0.length : Int) 80) : Int).toNat) (l1.take ((mn (l1.length : Int) 80) : Int).toNat)).bind fun t302 => ((astrolabelaw02_digits.f k t299 t302).bind fun t305 => ((kara_Square.f k (l0.take ((mn (l0.length : Int) 80) : Int).toNat)).bind fun t306 => ((astrolaberef02_Mul.f k (l0.take ((mn (l0.length : Int) 80) : Int).toNat) (l0.take ((mn (l0.length : Int) 80) : Int).toNat)).bind fun t309 => ((astrolabelaw02_digits.f k t306 t309).bind fun t312 => (if t305 = true then (if t312 = true then ((kara_Steps.f k (mn a2 20000)).bind fun t313 => ((astrolaberef02_Steps.f k (mn a2 20000)).bind fun t314 => (some (t313 == t314)))) else (none)) else (none)))))))) else (none)) else (none)) else (none)) else (none)) else (none))
theorem astrolabelaw02_KaraMuls.mono : ∀ a0 a1 a2 k, LeO (astrolabelaw02_KaraMuls.f k a0 a1 a2) (astrolabelaw02_KaraMuls.f (k + 1) a0 a1 a2) := by
  intro a0 a1 a2 k
  unfold astrolabelaw02_KaraMuls.f
  repeat' first
      | (with_reducible exact astrolabelaw02_digits.mono _ _ _)
      | (with_reducible exact astrolabelaw02_examples.mono _)
      | (with_reducible exact astrolaberef02_Mul.mono _ _ _)
      | (with_reducible exact astrolaberef02_Steps.mono _ _)
      | (with_reducible exact kara_Mul.mono _ _ _)
      | (with_reducible exact kara_Square.mono _ _)
      | (with_reducible exact kara_Steps.mono _ _)
      | (with_reducible exact LeO.refl _)
      | (with_reducible exact LeO.none _)
      | (with_reducible refine LeO.ite ?_ ?_)
      | (with_reducible refine LeO.bind ?_ (fun _ => ?_))
      | exact astrolabelaw02_digits.mono _ _ _
      | exact astrolabelaw02_examples.mono _
      | exact astrolaberef02_Mul.mono _ _ _
      | exact astrolaberef02_Steps.mono _ _
      | exact kara_Mul.mono _ _ _
      | exact kara_Square.mono _ _
      | exact kara_Steps.mono _ _
      | exact LeO.none _
      | refine LeO.ite ?_ ?_
      | refine LeO.bind ?_ (fun _ => ?_)
set_option maxHeartbeats 8000000 in
set_option maxRecDepth 100000 in
theorem astrolabelaw02_KaraMuls.calls (k : Nat) (A0 : Option Addr) (c0 : Nat) (l0 : List Int) (A1 : Option Addr) (c1 : Nat) (l1 : List Int) (a2 : Int) (r : Bool) (w : World) (hr0 : Kd.C (Kd.int .u32) w A0 l0.length l0) (hc0 : l0.length ≤ c0) (hr1 : Kd.C (Kd.int .u32) w A1 l1.length l1) (hc1 : l1.length ≤ c1) (h : astrolabelaw02_KaraMuls.f k l0 l1 a2 = some r) :
    Calls Try.prog 4 #[.slice A0 l0.length c0, .slice A1 l1.length c1, .int .i64 a2] w fun e w' => e = .returned (.bool r) ∧ Below w.heap.size w w' := by
  have HR0 := Aside0.mk hr0
  have HC0 := Aside0.mk hc0
  clear hr0 hc0
  have HR1 := Aside0.mk hr1
  have HC1 := Aside0.mk hc1
  clear hr1 hc1
  have HB := Aside0.mk (Below.refl w.heap.size w)
  have H : ((astrolabelaw02_examples.f k).bind fun t296 => (if t296 = true then (if 0 ≤ (mn (l0.length : Int) 80) then (if (mn (l0.length : Int) 80) ≤ (l0.length : Int) then (if 0 ≤ (mn (l1.length : Int) 80) then (if (mn (l1.length : Int) 80) ≤ (l1.length : Int) then ((kara_Mul.f k (l0.take ((mn (l0.length : Int) 80) : Int).toNat) (l1.take ((mn (l1.length : Int) 80) : Int).toNat)).bind fun t299 => ((astrolaberef02_Mul.f k (l0.take ((mn (l0.length : Int) 80) : Int).toNat) (l1.take ((mn (l1.length : Int) 80) : Int).toNat)).bind fun t302 => ((astrolabelaw02_digits.f k t299 t302).bind fun t305 => ((kara_Square.f k (l0.take ((mn (l0.length : Int) 80) : Int).toNat)).bind fun t306 => ((astrolaberef02_Mul.f k (l0.take ((mn (l0.length : Int) 80) : Int).toNat) (l0.take ((mn (l0.length : Int) 80) : Int).toNat)).bind fun t309 => ((astrolabelaw02_digits.f k t306 t309).bind fun t312 => (if t305 = true then (if t312 = true then ((kara_Steps.f k (mn a2 20000)).bind fun t313 => ((astrolaberef02_Steps.f k (mn a2 20000)).bind fun t314 => (some (t313 == t314)))) else (none)) else (none)))))))) else (none)) else (none)) else (none)) else (none)) else (none))) = some r := h
  clear h
  replace H := Option.bind_eq_some_iff.mp H
  obtain ⟨t296, A40, H⟩ := H
  replace H : (if t296 = true then (if 0 ≤ (mn (l0.length : Int) 80) then (if (mn (l0.length : Int) 80) ≤ (l0.length : Int) then (if 0 ≤ (mn (l1.length : Int) 80) then (if (mn (l1.length : Int) 80) ≤ (l1.length : Int) then ((kara_Mul.f k (l0.take ((mn (l0.length : Int) 80) : Int).toNat) (l1.take ((mn (l1.length : Int) 80) : Int).toNat)).bind fun t299 => ((astrolaberef02_Mul.f k (l0.take ((mn (l0.length : Int) 80) : Int).toNat) (l1.take ((mn (l1.length : Int) 80) : Int).toNat)).bind fun t302 => ((astrolabelaw02_digits.f k t299 t302).bind fun t305 => ((kara_Square.f k (l0.take ((mn (l0.length : Int) 80) : Int).toNat)).bind fun t306 => ((astrolaberef02_Mul.f k (l0.take ((mn (l0.length : Int) 80) : Int).toNat) (l0.take ((mn (l0.length : Int) 80) : Int).toNat)).bind fun t309 => ((astrolabelaw02_digits.f k t306 t309).bind fun t312 => (if t305 = true then (if t312 = true then ((kara_Steps.f k (mn a2 20000)).bind fun t313 => ((astrolaberef02_Steps.f k (mn a2 20000)).bind fun t314 => (some (t313 == t314)))) else (none)) else (none)))))))) else (none)) else (none)) else (none)) else (none)) else (none)) = some r := H
  have A4 := Aside0.mk A40
  clear A40
  by_cases c5 : t296 = true
  · subst c5
    have H1 : (if 0 ≤ (mn (l0.length : Int) 80) then (if (mn (l0.length : Int) 80) ≤ (l0.length : Int) then (if 0 ≤ (mn (l1.length : Int) 80) then (if (mn (l1.length : Int) 80) ≤ (l1.length : Int) then ((kara_Mul.f k (l0.take ((mn (l0.length : Int) 80) : Int).toNat) (l1.take ((mn (l1.length : Int) 80) : Int).toNat)).bind fun t299 => ((astrolaberef02_Mul.f k (l0.take ((mn (l0.length : Int) 80) : Int).toNat) (l1.take ((mn (l1.length : Int) 80) : Int).toNat)).bind fun t302 => ((astrolabelaw02_digits.f k t299 t302).bind fun t305 => ((kara_Square.f k (l0.take ((mn (l0.length : Int) 80) : Int).toNat)).bind fun t306 => ((astrolaberef02_Mul.f k (l0.take ((mn (l0.length : Int) 80) : Int).toNat) (l0.take ((mn (l0.length : Int) 80) : Int).toNat)).bind fun t309 => ((astrolabelaw02_digits.f k t306 t309).bind fun t312 => (if t305 = true then (if t312 = true then ((kara_Steps.f k (mn a2 20000)).bind fun t313 => ((astrolaberef02_Steps.f k (mn a2 20000)).bind fun t314 => (some (t313 == t314)))) else (none)) else (none)))))))) else (none)) else (none)) else (none)) else (none)) = some r := by rw [if_pos rfl] at H; exact H
    clear H
    have H := H1
    clear H1
    obtain ⟨ji6, hji6⟩ : ∃ j_ : Int, (mn (l0.length : Int) 80) = j_ := ⟨_, rfl⟩
    replace H : (if 0 ≤ (ji6) then (if (ji6) ≤ (l0.length : Int) then (if 0 ≤ (mn (l1.length : Int) 80) then (if (mn (l1.length : Int) 80) ≤ (l1.length : Int) then ((kara_Mul.f k (l0.take ((ji6) : Int).toNat) (l1.take ((mn (l1.length : Int) 80) : Int).toNat)).bind fun t299 => ((astrolaberef02_Mul.f k (l0.take ((ji6) : Int).toNat) (l1.take ((mn (l1.length : Int) 80) : Int).toNat)).bind fun t302 => ((astrolabelaw02_digits.f k t299 t302).bind fun t305 => ((kara_Square.f k (l0.take ((ji6) : Int).toNat)).bind fun t306 => ((astrolaberef02_Mul.f k (l0.take ((ji6) : Int).toNat) (l0.take ((ji6) : Int).toNat)).bind fun t309 => ((astrolabelaw02_digits.f k t306 t309).bind fun t312 => (if t305 = true then (if t312 = true then ((kara_Steps.f k (mn a2 20000)).bind fun t313 => ((astrolaberef02_Steps.f k (mn a2 20000)).bind fun t314 => (some (t313 == t314)))) else (none)) else (none)))))))) else (none)) else (none)) else (none)) else (none)) = some r := by first | (rw [hji6] at H; exact H) | (simp only [hji6] at H ⊢; exact H)
    (try rw [hji6] at A4)
    (try (have hji6h : ji6 ≤ 80 := by (rw [← hji6]; unfold mn; (repeat' split) <;> omega)))
    (try (have hji6g : ji6 ≤ 64 := by omega))
    (try (have hji6l : 0 ≤ ji6 := by (rw [← hji6]; unfold mn; (repeat' split) <;> omega)))
    (try (have hji6m : 0 ≤ ji6 := by omega))
    have hji6_ : (if 80 < (l0.length : Int) then 80 else (l0.length : Int)) = ji6 := hji6
    by_cases c7 : 0 ≤ (ji6)
    · rw [if_pos c7] at H
      have c7b0 := eq_true c7
      have c7b1 : decide (0 ≤ (ji6)) = true := decide_eq_true c7
      clear c7
      by_cases c8 : (ji6) ≤ (l0.length : Int)
      · rw [if_pos c8] at H
        have c8b0 := eq_true c8
        have c8b1 : decide ((ji6) ≤ (l0.length : Int)) = true := decide_eq_true c8
        clear c8
        obtain ⟨ji9, hji9⟩ : ∃ j_ : Int, (mn (l1.length : Int) 80) = j_ := ⟨_, rfl⟩
        replace H : (if 0 ≤ (ji9) then (if (ji9) ≤ (l1.length : Int) then ((kara_Mul.f k (l0.take ((ji6) : Int).toNat) (l1.take ((ji9) : Int).toNat)).bind fun t299 => ((astrolaberef02_Mul.f k (l0.take ((ji6) : Int).toNat) (l1.take ((ji9) : Int).toNat)).bind fun t302 => ((astrolabelaw02_digits.f k t299 t302).bind fun t305 => ((kara_Square.f k (l0.take ((ji6) : Int).toNat)).bind fun t306 => ((astrolaberef02_Mul.f k (l0.take ((ji6) : Int).toNat) (l0.take ((ji6) : Int).toNat)).bind fun t309 => ((astrolabelaw02_digits.f k t306 t309).bind fun t312 => (if t305 = true then (if t312 = true then ((kara_Steps.f k (mn a2 20000)).bind fun t313 => ((astrolaberef02_Steps.f k (mn a2 20000)).bind fun t314 => (some (t313 == t314)))) else (none)) else (none)))))))) else (none)) else (none)) = some r := by first | (rw [hji9] at H; exact H) | (simp only [hji9] at H ⊢; exact H)
        (try rw [hji9] at A4)
        (try (have hji9h : ji9 ≤ 80 := by (rw [← hji9]; unfold mn; (repeat' split) <;> omega)))
        (try (have hji9g : ji9 ≤ 64 := by omega))
        (try (have hji9l : 0 ≤ ji9 := by (rw [← hji9]; unfold mn; (repeat' split) <;> omega)))
        (try (have hji9m : 0 ≤ ji9 := by omega))
        have hji9_ : (if 80 < (l1.length : Int) then 80 else (l1.length : Int)) = ji9 := hji9
        by_cases c10 : 0 ≤ (ji9)
        · rw [if_pos c10] at H
          have c10b0 := eq_true c10
          have c10b1 : decide (0 ≤ (ji9)) = true := decide_eq_true c10
          clear c10
          by_cases c11 : (ji9) ≤ (l1.length : Int)
          · rw [if_pos c11] at H
            have c11b0 := eq_true c11
            have c11b1 : decide ((ji9) ≤ (l1.length : Int)) = true := decide_eq_true c11
            clear c11
            replace H := Option.bind_eq_some_iff.mp H
            obtain ⟨t299, A120, H⟩ := H
            replace H : ((astrolaberef02_Mul.f k (l0.take ((ji6) : Int).toNat) (l1.take ((ji9) : Int).toNat)).bind fun t302 => ((astrolabelaw02_digits.f k t299 t302).bind fun t305 => ((kara_Square.f k (l0.take ((ji6) : Int).toNat)).bind fun t306 => ((astrolaberef02_Mul.f k (l0.take ((ji6) : Int).toNat) (l0.take ((ji6) : Int).toNat)).bind fun t309 => ((astrolabelaw02_digits.f k t306 t309).bind fun t312 => (if t305 = true then (if t312 = true then ((kara_Steps.f k (mn a2 20000)).bind fun t313 => ((astrolaberef02_Steps.f k (mn a2 20000)).bind fun t314 => (some (t313 == t314)))) else (none)) else (none))))))) = some r := H
            have A12 := Aside0.mk A120
            clear A120
            replace H := Option.bind_eq_some_iff.mp H
            obtain ⟨t302, A130, H⟩ := H
            replace H : ((astrolabelaw02_digits.f k t299 t302).bind fun t305 => ((kara_Square.f k (l0.take ((ji6) : Int).toNat)).bind fun t306 => ((astrolaberef02_Mul.f k (l0.take ((ji6) : Int).toNat) (l0.take ((ji6) : Int).toNat)).bind fun t309 => ((astrolabelaw02_digits.f k t306 t309).bind fun t312 => (if t305 = true then (if t312 = true then ((kara_Steps.f k (mn a2 20000)).bind fun t313 => ((astrolaberef02_Steps.f k (mn a2 20000)).bind fun t314 => (some (t313 == t314)))) else (none)) else (none)))))) = some r := H
            have A13 := Aside0.mk A130
            clear A130
            replace H := Option.bind_eq_some_iff.mp H
            obtain ⟨t305, A140, H⟩ := H
            replace H : ((kara_Square.f k (l0.take ((ji6) : Int).toNat)).bind fun t306 => ((astrolaberef02_Mul.f k (l0.take ((ji6) : Int).toNat) (l0.take ((ji6) : Int).toNat)).bind fun t309 => ((astrolabelaw02_digits.f k t306 t309).bind fun t312 => (if t305 = true then (if t312 = true then ((kara_Steps.f k (mn a2 20000)).bind fun t313 => ((astrolaberef02_Steps.f k (mn a2 20000)).bind fun t314 => (some (t313 == t314)))) else (none)) else (none))))) = some r := H
            have A14 := Aside0.mk A140
            clear A140
            replace H := Option.bind_eq_some_iff.mp H
            obtain ⟨t306, A150, H⟩ := H
            replace H : ((astrolaberef02_Mul.f k (l0.take ((ji6) : Int).toNat) (l0.take ((ji6) : Int).toNat)).bind fun t309 => ((astrolabelaw02_digits.f k t306 t309).bind fun t312 => (if t305 = true then (if t312 = true then ((kara_Steps.f k (mn a2 20000)).bind fun t313 => ((astrolaberef02_Steps.f k (mn a2 20000)).bind fun t314 => (some (t313 == t314)))) else (none)) else (none)))) = some r := H
            have A15 := Aside0.mk A150
            clear A150
            replace H := Option.bind_eq_some_iff.mp H
            obtain ⟨t309, A160, H⟩ := H
            replace H : ((astrolabelaw02_digits.f k t306 t309).bind fun t312 => (if t305 = true then (if t312 = true then ((kara_Steps.f k (mn a2 20000)).bind fun t313 => ((astrolaberef02_Steps.f k (mn a2 20000)).bind fun t314 => (some (t313 == t314)))) else (none)) else (none))) = some r := H
            have A16 := Aside0.mk A160
            clear A160
            replace H := Option.bind_eq_some_iff.mp H
            obtain ⟨t312, A170, H⟩ := H
            replace H : (if t305 = true then (if t312 = true then ((kara_Steps.f k (mn a2 20000)).bind fun t313 => ((astrolaberef02_Steps.f k (mn a2 20000)).bind fun t314 => (some (t313 == t314)))) else (none)) else (none)) = some r := H
            have A17 := Aside0.mk A170
            clear A170
            obtain ⟨ji18, hji18⟩ : ∃ j_ : Int, (mn a2 20000) = j_ := ⟨_, rfl⟩
            replace H : (if t305 = true then (if t312 = true then ((kara_Steps.f k (ji18)).bind fun t313 => ((astrolaberef02_Steps.f k (ji18)).bind fun t314 => (some (t313 == t314)))) else (none)) else (none)) = some r := by first | (rw [hji18] at H; exact H) | (simp only [hji18] at H ⊢; exact H)
            (try rw [hji18] at A4)
            (try rw [hji18] at A12)
            (try rw [hji18] at A13)
            (try rw [hji18] at A14)
            (try rw [hji18] at A15)
            (try rw [hji18] at A16)
            (try rw [hji18] at A17)
            (try (have hji18h : ji18 ≤ 20000 := by (rw [← hji18]; unfold mn; (repeat' split) <;> omega)))
            (try (have hji18g : ji18 ≤ 64 := by omega))
            have hji18_ : (if 20000 < a2 then 20000 else a2) = ji18 := hji18
            by_cases c19 : t305 = true
            · subst c19
              have H1 : (if t312 = true then ((kara_Steps.f k (ji18)).bind fun t313 => ((astrolaberef02_Steps.f k (ji18)).bind fun t314 => (some (t313 == t314)))) else (none)) = some r := by rw [if_pos rfl] at H; exact H
              clear H
              have H := H1
              clear H1
              by_cases c20 : t312 = true
              · subst c20
                have H1 : ((kara_Steps.f k (ji18)).bind fun t313 => ((astrolaberef02_Steps.f k (ji18)).bind fun t314 => (some (t313 == t314)))) = some r := by rw [if_pos rfl] at H; exact H
                clear H
                have H := H1
                clear H1
                replace H := Option.bind_eq_some_iff.mp H
                obtain ⟨t313, A210, H⟩ := H
                replace H : ((astrolaberef02_Steps.f k (ji18)).bind fun t314 => (some (t313 == t314))) = some r := H
                have A21 := Aside0.mk A210
                clear A210
                replace H := Option.bind_eq_some_iff.mp H
                obtain ⟨t314, A220, H⟩ := H
                replace H : (some (t313 == t314)) = some r := H
                have A22 := Aside0.mk A220
                clear A220
                obtain rfl := Option.some.inj H
                go_enter Try.func4, Try.ntmps4
                go_wp2_with (first | ((with_reducible refine gate_callee (f := 8) rfl ?_); refine goesL_ (some 10) rfl rfl Try.func8 (by kernel_rfl) rfl #[] rfl (by (try simp only [List.map_toArray, List.map_cons, List.map_nil]); first | done | rfl | (simp only [List.length_drop, List.length_take]; rfl)) ?_; (with_reducible refine (astrolabelaw02_examples.calls k  true _ A4.out).mono ?_); rintro e w23 ⟨rfl, hb⟩; refine ⟨_, rfl, ?_⟩; have n0_ := Aside0.mk (below_step (by repeat (first | (with_reducible first | exact HB.out | apply below_alloc | apply pw_below_drewN | apply below_drew1) | exact HB.out)) hb); clear HB; have HB := n0_; clear n0_; (try clear hb); (try clear hb2); (try clear hk); (try clear hi); obtain ⟨i024, hi024, _, hsz24, _⟩ := info_parts info31; obtain ⟨hcut24, hA24, hC24⟩ := print_take_of (P := Try.prog) (Value.int .u32) 0 25 31 .i64 Try.underlying25 hi024 hsz24 A0 c0 l0 (ji6) (of_decide_eq_true (by first | (with_reducible assumption) | assumption)) (of_decide_eq_true (by first | (with_reducible assumption) | assumption)) HC0.out; have HR297 := Aside0.mk (Kd.C_of_reads (h1 := fun _ => rfl) (hA24 _ (Kd.reads_of_C HR0.out))); have HC297 := Aside0.mk hC24; clear hA24 hC24 hi024 hsz24; obtain ⟨i025, hi025, _, hsz25, _⟩ := info_parts info31; obtain ⟨hcut25, hA25, hC25⟩ := print_take_of (P := Try.prog) (Value.int .u32) 0 25 31 .i64 Try.underlying25 hi025 hsz25 A1 c1 l1 (ji9) (of_decide_eq_true (by first | (with_reducible assumption) | assumption)) (of_decide_eq_true (by first | (with_reducible assumption) | assumption)) HC1.out; have HR298 := Aside0.mk (Kd.C_of_reads (h1 := fun _ => rfl) (hA25 _ (Kd.reads_of_C HR1.out))); have HC298 := Aside0.mk hC25; clear hA25 hC25 hi025 hsz25) | ((with_reducible refine gate_callee (f := 11) rfl ?_); refine goesL_ (some 25) rfl rfl Try.func11 (by kernel_rfl) rfl #[.slice A0 (l0.take ((ji6) : Int).toNat).length c0, .slice A1 (l1.take ((ji9) : Int).toNat).length c1] rfl (by (try simp only [List.map_toArray, List.map_cons, List.map_nil]); first | done | (rw [show (l0.take ((ji6) : Int).toNat).length = (ji6).toNat from (by rw [List.length_take]; have h_ : ((ji6) : Int) ≤ (l0.length : Int) := (by first | exact of_decide_eq_true (by first | (with_reducible assumption) | assumption) | (rw [← hji6]; unfold mn; split <;> omega)); omega)] <;> rfl) | (rw [show (l1.take ((ji9) : Int).toNat).length = (ji9).toNat from (by rw [List.length_take]; have h_ : ((ji9) : Int) ≤ (l1.length : Int) := (by first | exact of_decide_eq_true (by first | (with_reducible assumption) | assumption) | (rw [← hji9]; unfold mn; split <;> omega)); omega)] <;> rfl) | (rw [show (l0.take ((ji6) : Int).toNat).length = (ji6).toNat from (by rw [List.length_take]; have h_ : ((ji6) : Int) ≤ (l0.length : Int) := (by first | exact of_decide_eq_true (by first | (with_reducible assumption) | assumption) | (rw [← hji6]; unfold mn; split <;> omega)); omega), show (l1.take ((ji9) : Int).toNat).length = (ji9).toNat from (by rw [List.length_take]; have h_ : ((ji9) : Int) ≤ (l1.length : Int) := (by first | exact of_decide_eq_true (by first | (with_reducible assumption) | assumption) | (rw [← hji9]; unfold mn; split <;> omega)); omega)] <;> rfl) | (simp only [hji6, hji9]; rfl) | rfl | (simp only [List.length_drop, List.length_take]; rfl)) ?_; (with_reducible refine (kara_Mul.calls k _ _ (l0.take ((ji6) : Int).toNat) _ _ (l1.take ((ji9) : Int).toNat) t299 _ ?side1 ?side2 ?side3 ?side4 A12.out).mono ?_); (case side1 => repeat (first | exact (Kd.C_below HR297.out HB.out) | (with_reducible refine Kd.C_alloc ?_ _) | (with_reducible refine Kd.C_drewN ?_ _) | (with_reducible refine Kd.C_drew ?_))); (case side2 => exact HC297.out); (case side3 => repeat (first | exact (Kd.C_below HR298.out HB.out) | (with_reducible refine Kd.C_alloc ?_ _) | (with_reducible refine Kd.C_drewN ?_ _) | (with_reducible refine Kd.C_drew ?_))); (case side4 => exact HC298.out); rintro e w26 ⟨v300, rfl, ho0, hb⟩; refine ⟨_, rfl, ?_⟩; have n0_ := Aside0.mk (Kd.V_lower (Kd.V_mono (ok' := fun k_ => True) ho0 (fun k_ hk_ => trivial)) (below_size (by repeat (first | (with_reducible first | exact HB.out | apply below_alloc | apply pw_below_drewN | apply below_drew1) | exact HB.out)))); have n1_ := Aside0.mk (below_step (by repeat (first | (with_reducible first | exact HB.out | apply below_alloc | apply pw_below_drewN | apply below_drew1) | exact HB.out)) hb); clear HB; have HO301 := n0_; have HB := n1_; clear n0_ n1_; (try clear hb); (try clear hb2); (try clear hk); (try clear hi); (try clear ho0)) | ((with_reducible refine gate_callee (f := 12) rfl ?_); refine goesL_ (some 28) rfl rfl Try.func12 (by kernel_rfl) rfl #[.slice A0 (l0.take ((ji6) : Int).toNat).length c0, .slice A1 (l1.take ((ji9) : Int).toNat).length c1] rfl (by (try simp only [List.map_toArray, List.map_cons, List.map_nil]); first | done | (rw [show (l0.take ((ji6) : Int).toNat).length = (ji6).toNat from (by rw [List.length_take]; have h_ : ((ji6) : Int) ≤ (l0.length : Int) := (by first | exact of_decide_eq_true (by first | (with_reducible assumption) | assumption) | (rw [← hji6]; unfold mn; split <;> omega)); omega)] <;> rfl) | (rw [show (l1.take ((ji9) : Int).toNat).length = (ji9).toNat from (by rw [List.length_take]; have h_ : ((ji9) : Int) ≤ (l1.length : Int) := (by first | exact of_decide_eq_true (by first | (with_reducible assumption) | assumption) | (rw [← hji9]; unfold mn; split <;> omega)); omega)] <;> rfl) | (rw [show (l0.take ((ji6) : Int).toNat).length = (ji6).toNat from (by rw [List.length_take]; have h_ : ((ji6) : Int) ≤ (l0.length : Int) := (by first | exact of_decide_eq_true (by first | (with_reducible assumption) | assumption) | (rw [← hji6]; unfold mn; split <;> omega)); omega), show (l1.take ((ji9) : Int).toNat).length = (ji9).toNat from (by rw [List.length_take]; have h_ : ((ji9) : Int) ≤ (l1.length : Int) := (by first | exact of_decide_eq_true (by first | (with_reducible assumption) | assumption) | (rw [← hji9]; unfold mn; split <;> omega)); omega)] <;> rfl) | (simp only [hji6, hji9]; rfl) | rfl | (simp only [List.length_drop, List.length_take]; rfl)) ?_; (with_reducible refine (astrolaberef02_Mul.calls k _ _ (l0.take ((ji6) : Int).toNat) _ _ (l1.take ((ji9) : Int).toNat) t302 _ ?side1 ?side2 ?side3 ?side4 A13.out).mono ?_); (case side1 => repeat (first | exact (Kd.C_below HR297.out HB.out) | (with_reducible refine Kd.C_alloc ?_ _) | (with_reducible refine Kd.C_drewN ?_ _) | (with_reducible refine Kd.C_drew ?_))); (case side2 => exact HC297.out); (case side3 => repeat (first | exact (Kd.C_below HR298.out HB.out) | (with_reducible refine Kd.C_alloc ?_ _) | (with_reducible refine Kd.C_drewN ?_ _) | (with_reducible refine Kd.C_drew ?_))); (case side4 => exact HC298.out); rintro e w27 ⟨v303, rfl, ho0, hb⟩; refine ⟨_, rfl, ?_⟩; have n0_ := Aside0.mk (Kd.V_elder' (by (with_reducible repeat (first | apply Kd.V_alloc | apply Kd.V_drewN | apply Kd.V_drew)); exact HO301.out) (Kd.R_base ho0) hb); have n1_ := Aside0.mk (Kd.R_lower ho0 (below_size (by repeat (first | (with_reducible first | exact HB.out | apply below_alloc | apply pw_below_drewN | apply below_drew1) | exact HB.out)))); have n2_ := Aside0.mk (below_step (by repeat (first | (with_reducible first | exact HB.out | apply below_alloc | apply pw_below_drewN | apply below_drew1) | exact HB.out)) hb); clear HO301; clear HB; have HO301 := n0_; have HO304 := n1_; have HB := n2_; clear n0_ n1_ n2_; (try clear hb); (try clear hb2); (try clear hk); (try clear hi); (try clear ho0); obtain ⟨Ao28, co28, eo28⟩ := Kd.V_slice HO301.out; subst eo28; obtain ⟨Ao29, co29, eo29⟩ := Kd.R_slice HO304.out; subst eo29) | ((with_reducible refine gate_callee (f := 10) rfl ?_); refine goesL_ (some 29) rfl rfl Try.func10 (by kernel_rfl) rfl #[.slice Ao28 t299.length co28, .slice Ao29 t302.length co29] rfl (by (try simp only [List.map_toArray, List.map_cons, List.map_nil]); first | done | rfl | (simp only [List.length_drop, List.length_take]; rfl)) ?_; (with_reducible refine (astrolabelaw02_digits.calls k _ _ t299 _ _ t302 true _ ?side1 ?side2 ?side3 ?side4 A14.out).mono ?_); (case side1 => repeat (first | exact (Kd.V_reads' HO301.out).2.2 | (with_reducible refine Kd.C_alloc ?_ _) | (with_reducible refine Kd.C_drewN ?_ _) | (with_reducible refine Kd.C_drew ?_))); (case side2 => exact (Kd.V_reads' HO301.out).2.1); (case side3 => repeat (first | exact (Kd.R_reads' HO304.out).2.2 | (with_reducible refine Kd.C_alloc ?_ _) | (with_reducible refine Kd.C_drewN ?_ _) | (with_reducible refine Kd.C_drew ?_))); (case side4 => exact (Kd.R_reads' HO304.out).2.1); rintro e w' ⟨rfl, ⟨nd, rfl⟩⟩; refine ⟨_, rfl, ?_⟩) | ((with_reducible refine gate_callee (f := 13) rfl ?_); refine goesL_ (some 31) rfl rfl Try.func13 (by kernel_rfl) rfl #[.slice A0 (l0.take ((ji6) : Int).toNat).length c0] rfl (by (try simp only [List.map_toArray, List.map_cons, List.map_nil]); first | done | (rw [show (l0.take ((ji6) : Int).toNat).length = (ji6).toNat from (by rw [List.length_take]; have h_ : ((ji6) : Int) ≤ (l0.length : Int) := (by first | exact of_decide_eq_true (by first | (with_reducible assumption) | assumption) | (rw [← hji6]; unfold mn; split <;> omega)); omega)] <;> rfl) | (simp only [hji6]; rfl) | rfl | (simp only [List.length_drop, List.length_take]; rfl)) ?_; (with_reducible refine (kara_Square.calls k _ _ (l0.take ((ji6) : Int).toNat) t306 _ ?side1 ?side2 A15.out).mono ?_); (case side1 => repeat (first | exact (Kd.C_below HR297.out (by repeat (first | (with_reducible first | exact HB.out | apply below_alloc | apply pw_below_drewN | apply below_drew1) | exact HB.out))) | (with_reducible refine Kd.C_alloc ?_ _) | (with_reducible refine Kd.C_drewN ?_ _) | (with_reducible refine Kd.C_drew ?_))); (case side2 => exact HC297.out); rintro e w30 ⟨v307, rfl, ho0, hb⟩; refine ⟨_, rfl, ?_⟩; have n0_ := Aside0.mk (Kd.V_below (by (with_reducible repeat (first | apply Kd.V_alloc | apply Kd.V_drewN | apply Kd.V_drew)); exact HO301.out) hb); have n1_ := Aside0.mk (Kd.R_below (by (with_reducible repeat (first | apply Kd.R_alloc | apply Kd.R_drewN | apply Kd.R_drew)); exact HO304.out) hb); have n2_ := Aside0.mk (Kd.V_lower (Kd.V_mono (ok' := fun k_ => some k_ ≠ (.slice Ao29 t302.length co29 : Value).ownBlock) ho0 (fun k_ hk_ => (Kd.fresh' (Kd.R_lt (by (with_reducible repeat (first | apply Kd.R_alloc | apply Kd.R_drewN | apply Kd.R_drew)); exact HO304.out)) k_ hk_))) (below_size (by repeat (first | (with_reducible first | exact HB.out | apply below_alloc | apply pw_below_drewN | apply below_drew1) | exact HB.out)))); have n3_ := Aside0.mk (below_step (by repeat (first | (with_reducible first | exact HB.out | apply below_alloc | apply pw_below_drewN | apply below_drew1) | exact HB.out)) hb); clear HO301; clear HO304; clear HB; have HO301 := n0_; have HO304 := n1_; have HO308 := n2_; have HB := n3_; clear n0_ n1_ n2_ n3_; (try clear hb); (try clear hb2); (try clear hk); (try clear hi); (try clear ho0)) | ((with_reducible refine gate_callee (f := 12) rfl ?_); refine goesL_ (some 34) rfl rfl Try.func12 (by kernel_rfl) rfl #[.slice A0 (l0.take ((ji6) : Int).toNat).length c0, .slice A0 (l0.take ((ji6) : Int).toNat).length c0] rfl (by (try simp only [List.map_toArray, List.map_cons, List.map_nil]); first | done | (rw [show (l0.take ((ji6) : Int).toNat).length = (ji6).toNat from (by rw [List.length_take]; have h_ : ((ji6) : Int) ≤ (l0.length : Int) := (by first | exact of_decide_eq_true (by first | (with_reducible assumption) | assumption) | (rw [← hji6]; unfold mn; split <;> omega)); omega)] <;> rfl) | (rw [show (l0.take ((ji6) : Int).toNat).length = (ji6).toNat from (by rw [List.length_take]; have h_ : ((ji6) : Int) ≤ (l0.length : Int) := (by first | exact of_decide_eq_true (by first | (with_reducible assumption) | assumption) | (rw [← hji6]; unfold mn; split <;> omega)); omega)] <;> rfl) | (simp only [hji6]; rfl) | rfl | (simp only [List.length_drop, List.length_take]; rfl)) ?_; (with_reducible refine (astrolaberef02_Mul.calls k _ _ (l0.take ((ji6) : Int).toNat) _ _ (l0.take ((ji6) : Int).toNat) t309 _ ?side1 ?side2 ?side3 ?side4 A16.out).mono ?_); (case side1 => repeat (first | exact (Kd.C_below HR297.out HB.out) | (with_reducible refine Kd.C_alloc ?_ _) | (with_reducible refine Kd.C_drewN ?_ _) | (with_reducible refine Kd.C_drew ?_))); (case side2 => exact HC297.out); (case side3 => repeat (first | exact (Kd.C_below HR297.out HB.out) | (with_reducible refine Kd.C_alloc ?_ _) | (with_reducible refine Kd.C_drewN ?_ _) | (with_reducible refine Kd.C_drew ?_))); (case side4 => exact HC297.out); rintro e w31 ⟨v310, rfl, ho0, hb⟩; refine ⟨_, rfl, ?_⟩; have n0_ := Aside0.mk (Kd.V_elder' (by (with_reducible repeat (first | apply Kd.V_alloc | apply Kd.V_drewN | apply Kd.V_drew)); exact HO301.out) (Kd.R_base ho0) hb); have n1_ := Aside0.mk (Kd.R_elder' (by (with_reducible repeat (first | apply Kd.R_alloc | apply Kd.R_drewN | apply Kd.R_drew)); exact HO304.out) (Kd.R_base ho0) hb); have n2_ := Aside0.mk (Kd.V_elder' (by (with_reducible repeat (first | apply Kd.V_alloc | apply Kd.V_drewN | apply Kd.V_drew)); exact HO308.out) (Kd.R_base ho0) hb); have n3_ := Aside0.mk (Kd.R_lower (Kd.R_new' ho0 (Kd.R_lt (by (with_reducible repeat (first | apply Kd.R_alloc | apply Kd.R_drewN | apply Kd.R_drew)); exact HO304.out))) (below_size (by repeat (first | (with_reducible first | exact HB.out | apply below_alloc | apply pw_below_drewN | apply below_drew1) | exact HB.out)))); have n4_ := Aside0.mk (below_step (by repeat (first | (with_reducible first | exact HB.out | apply below_alloc | apply pw_below_drewN | apply below_drew1) | exact HB.out)) hb); clear HO301; clear HO304; clear HO308; clear HB; have HO301 := n0_; have HO304 := n1_; have HO308 := n2_; have HO311 := n3_; have HB := n4_; clear n0_ n1_ n2_ n3_ n4_; (try clear hb); (try clear hb2); (try clear hk); (try clear hi); (try clear ho0); obtain ⟨Ao32, co32, eo32⟩ := Kd.V_slice HO308.out; subst eo32; obtain ⟨Ao33, co33, eo33⟩ := Kd.R_slice HO311.out; subst eo33) | ((with_reducible refine gate_callee (f := 10) rfl ?_); refine goesL_ (some 35) rfl rfl Try.func10 (by kernel_rfl) rfl #[.slice Ao32 t306.length co32, .slice Ao33 t309.length co33] rfl (by (try simp only [List.map_toArray, List.map_cons, List.map_nil]); first | done | rfl | (simp only [List.length_drop, List.length_take]; rfl)) ?_; (with_reducible refine (astrolabelaw02_digits.calls k _ _ t306 _ _ t309 true _ ?side1 ?side2 ?side3 ?side4 A17.out).mono ?_); (case side1 => repeat (first | exact (Kd.V_reads' HO308.out).2.2 | (with_reducible refine Kd.C_alloc ?_ _) | (with_reducible refine Kd.C_drewN ?_ _) | (with_reducible refine Kd.C_drew ?_))); (case side2 => exact (Kd.V_reads' HO308.out).2.1); (case side3 => repeat (first | exact (Kd.R_reads' HO311.out).2.2 | (with_reducible refine Kd.C_alloc ?_ _) | (with_reducible refine Kd.C_drewN ?_ _) | (with_reducible refine Kd.C_drew ?_))); (case side4 => exact (Kd.R_reads' HO311.out).2.1); rintro e w' ⟨rfl, ⟨nd, rfl⟩⟩; refine ⟨_, rfl, ?_⟩) | (go_at_call 9; (with_reducible refine (kara_Steps.calls k ji18 t313 _ A21.out).mono ?_); rintro e w34 ⟨rfl, hb⟩; have n0_ := Aside0.mk (Kd.V_below (by (with_reducible repeat (first | apply Kd.V_alloc | apply Kd.V_drewN | apply Kd.V_drew)); exact HO301.out) hb); have n1_ := Aside0.mk (Kd.R_below (by (with_reducible repeat (first | apply Kd.R_alloc | apply Kd.R_drewN | apply Kd.R_drew)); exact HO304.out) hb); have n2_ := Aside0.mk (Kd.V_below (by (with_reducible repeat (first | apply Kd.V_alloc | apply Kd.V_drewN | apply Kd.V_drew)); exact HO308.out) hb); have n3_ := Aside0.mk (Kd.R_below (by (with_reducible repeat (first | apply Kd.R_alloc | apply Kd.R_drewN | apply Kd.R_drew)); exact HO311.out) hb); have n4_ := Aside0.mk (below_step (by repeat (first | (with_reducible first | exact HB.out | apply below_alloc | apply pw_below_drewN | apply below_drew1) | exact HB.out)) hb); clear HO301; clear HO304; clear HO308; clear HO311; clear HB; have HO301 := n0_; have HO304 := n1_; have HO308 := n2_; have HO311 := n3_; have HB := n4_; clear n0_ n1_ n2_ n3_ n4_; (try clear hb); (try clear hb2); (try clear hk); (try clear hi)) | (go_at_call 14; (with_reducible refine (astrolaberef02_Steps.calls k ji18 t314 _ A22.out).mono ?_); rintro e w35 ⟨rfl, hb⟩; have n0_ := Aside0.mk (Kd.V_below (by (with_reducible repeat (first | apply Kd.V_alloc | apply Kd.V_drewN | apply Kd.V_drew)); exact HO301.out) hb); have n1_ := Aside0.mk (Kd.R_below (by (with_reducible repeat (first | apply Kd.R_alloc | apply Kd.R_drewN | apply Kd.R_drew)); exact HO304.out) hb); have n2_ := Aside0.mk (Kd.V_below (by (with_reducible repeat (first | apply Kd.V_alloc | apply Kd.V_drewN | apply Kd.V_drew)); exact HO308.out) hb); have n3_ := Aside0.mk (Kd.R_below (by (with_reducible repeat (first | apply Kd.R_alloc | apply Kd.R_drewN | apply Kd.R_drew)); exact HO311.out) hb); have n4_ := Aside0.mk (below_step (by repeat (first | (with_reducible first | exact HB.out | apply below_alloc | apply pw_below_drewN | apply below_drew1) | exact HB.out)) hb); clear HO301; clear HO304; clear HO308; clear HO311; clear HB; have HO301 := n0_; have HO304 := n1_; have HO308 := n2_; have HO311 := n3_; have HB := n4_; clear n0_ n1_ n2_ n3_ n4_; (try clear hb); (try clear hb2); (try clear hk); (try clear hi)))
                go_ret
                exact ⟨by first | rfl | (simp [errW_none, errW_some] <;> rfl) | (simp only [← hji6, ← hji9, ← hji18]; first | rfl | (simp [errW_none, errW_some] <;> rfl)) | (simp [*, errW_none, errW_some] <;> rfl), by repeat (first | (with_reducible first | exact HB.out | apply below_alloc | apply pw_below_drewN | apply below_drew1) | exact HB.out)⟩
              · replace c20 := Bool.eq_false_iff.mpr c20
                subst c20
                have H1 : (none) = some r := by rw [if_neg (show ¬ (false = true) by decide)] at H; exact H
                clear H
                have H := H1
                clear H1
                exact absurd H (by simp)
            · replace c19 := Bool.eq_false_iff.mpr c19
              subst c19
              have H1 : (none) = some r := by rw [if_neg (show ¬ (false = true) by decide)] at H; exact H
              clear H
              have H := H1
              clear H1
              exact absurd H (by simp)
          · rw [if_neg c11] at H
            exact absurd H (by simp)
        · rw [if_neg c10] at H
          exact absurd H (by simp)
      · rw [if_neg c8] at H
        exact absurd H (by simp)
    · rw [if_neg c7] at H
      exact absurd H (by simp)
  · replace c5 := Bool.eq_false_iff.mpr c5
    subst c5
    have H1 : (none) = some r := by rw [if_neg (show ¬ (false = true) by decide)] at H; exact H
    clear H
    have H := H1
    clear H1
    exact absurd H (by simp)

/-- THE ONE PURE STATEMENT of astrolabelaw02_KaraMuls: yours. -/
def astrolabelaw02_KaraMuls.Pure : Prop := ∀ (l0 : List Int) (l1 : List Int) (a2 : Int), l0.length ≤ maxLen → l0.length * 4 ≤ 140737488351232 → (∀ x ∈ l0, (Lit.int .u32 x).wf = true) → l1.length ≤ maxLen → l1.length * 4 ≤ 140737488351232 → (∀ x ∈ l1, (Lit.int .u32 x).wf = true) → (Lit.int .i64 a2).wf = true → ∃ k, astrolabelaw02_KaraMuls.f k l0 l1 a2 = some true
theorem astrolabelaw02_KaraMuls.walk (P : astrolabelaw02_KaraMuls.Pure) (a0 : Option Addr) (len0 cap0 : Nat) (z0 : List Int) (a1 : Option Addr) (len1 cap1 : Nat) (z1 : List Int) (a2 : Int) (w : World) (w0 : (a0 = none ∧ len0 = 0 ∧ cap0 = 0 ∧ z0 = []) ∨ ∃ x, a0 = some x ∧ len0 ≤ cap0 ∧ cap0 ≤ maxLen ∧ z0.length = cap0 ∧ (∀ i, i < z0.length → w.cell? (x.add i) = some (.int .u32 (z0.getD i 0))) ∧ ∀ n ∈ z0, (Lit.int .u32 n).wf = true) (y0 : len0 * 4 ≤ 140737488351232) (w1 : (a1 = none ∧ len1 = 0 ∧ cap1 = 0 ∧ z1 = []) ∨ ∃ x, a1 = some x ∧ len1 ≤ cap1 ∧ cap1 ≤ maxLen ∧ z1.length = cap1 ∧ (∀ i, i < z1.length → w.cell? (x.add i) = some (.int .u32 (z1.getD i 0))) ∧ ∀ n ∈ z1, (Lit.int .u32 n).wf = true) (y1 : len1 * 4 ≤ 140737488351232) (w2 : (Lit.int .i64 a2).wf = true) :
    Calls Try.prog 4 #[.slice a0 len0 cap0, .slice a1 len1 cap1, .int .i64 a2] w fun e w' => e = .returned (.bool true) ∧ Below w.heap.size w w' := by
  obtain ⟨l0, rfl, hr0, hm0, hw0, hc0⟩ := ReadsInt.ofRowC w0
  obtain ⟨l1, rfl, hr1, hm1, hw1, hc1⟩ := ReadsInt.ofRowC w1
  obtain ⟨k, h⟩ := P l0 l1 a2 hm0 y0 hw0 hm1 y1 hw1 w2
  refine (astrolabelaw02_KaraMuls.calls k _ _ l0 _ _ l1 a2 true w (Kd.C_of_reads (d := (0 : Int)) (h1 := fun _ => rfl) hr0) hc0 (Kd.C_of_reads (d := (0 : Int)) (h1 := fun _ => rfl) hr1) hc1 h).mono ?_
  rintro e w' ⟨rfl, hd⟩
  exact ⟨rfl, hd⟩

end Go.Proofs.Ytpodpfppbkjbcaa.P
