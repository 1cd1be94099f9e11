/- What the Go functions of these names come to, as plain Lean functions, and the walks that show it. Written for this claim by a turned copy of the print program; Lean checks it. -/
import Derived.Test.YtpodpfppbkjbcaaP0
import Derived.Test.YtpodpfppbkjbcaaP1
import Derived.Test.YtpodpfppbkjbcaaP3
import Derived.Test.YtpodpfppbkjbcaaP7
import Derived.Test.YtpodpfppbkjbcaaP8
namespace Go.Proofs.Ytpodpfppbkjbcaa.P
open Go.RowKit Go.Proofs.YtpodpfppbkjbcaaW.PrintWords Go.Proofs.YtpodpfppbkjbcaaW.PrintLast Go.Proofs.YtpodpfppbkjbcaaW.PrintMore
attribute [local go_sem] max2_int min2_int max_two min_two max_three min_three max_four min_four   -- for this text's walks alone
set_option linter.unusedVariables false
set_option linter.unusedSimpArgs false

/-! ### astrolabelaw02_KaraMoves: function 7 -/
mutual
def astrolabelaw02_KaraMoves.j0 : Nat → List Int → List Int → Int → Int → Bool → Option (Bool)
  | 0, _, _, _, _, _ => none
  | k + 1, x0, x1, x2, x3, x9 => if x3 < 0 then (astrolabelaw02_KaraMoves.j1 k x0 x1 x2 (wrap64 (-(wrap64 (x3 + 1)))) x9) else (astrolabelaw02_KaraMoves.j1 k x0 x1 x2 x3 x9)
def astrolabelaw02_KaraMoves.j1 : Nat → List Int → List Int → Int → Int → Bool → Option (Bool)
  | 0, _, _, _, _, _ => none
  | k + 1, x0, x1, x2, x3, x9 => (nat_Shl.f k x0 (Int.tmod x2 601)).bind fun bt412 => ((nat_Shl.f k x1 (Int.tmod x3 601)).bind fun bt416 => ((kara_Mul.f k x0 x1).bind fun t420 => ((nat_Shl.f k t420 (wrap64 ((Int.tmod x2 601) + (Int.tmod x3 601)))).bind fun bt423 => ((kara_Mul.f k bt412.1 bt416.1).bind fun t427 => ((astrolabelaw02_digits.f k t427 bt423.1).bind fun t430 => ((kara_Mul.f k x0 (([1] : List Int))).bind fun t434 => ((nat_Trim.f k x0).bind fun t437 => ((astrolabelaw02_digits.f k t434 t437).bind fun t440 => (if x9 = true then (if bt412.2 = true then (if bt416.2 = true then (if bt423.2 = true then (if t430 = true then (if t440 = true then ((kara_Mul.f k x0 ([] : List Int)).bind fun t441 => (some ((t441.length : Int) == 0))) else (none)) else (none)) else (none)) else (none)) else (none)) else (none))))))))))
end
def astrolabelaw02_KaraMoves.f (k : Nat) (l0 : List Int) (l1 : List Int) (a2 : Int) (a3 : Int) : Option (Bool) := (astrolabelaw02_examples.f k).bind fun t409 => (if t409 = true then (if 0 ≤ (mn (l0.length : Int) 30) then (if (mn (l0.length : Int) 30) ≤ (l0.length : Int) then (if 0 ≤ (mn (l1.length : Int) 30) then (if (mn (l1.length : Int) 30) ≤ (l1.length : Int) then (if a2 < 0 then (astrolabelaw02_KaraMoves.j0 k (l0.take ((mn (l0.length : Int) 30) : Int).toNat) (l1.take ((mn (l1.length : Int) 30) : Int).toNat) (wrap64 (-(wrap64 (a2 + 1)))) a3 t409) else (astrolabelaw02_KaraMoves.j0 k (l0.take ((mn (l0.length : Int) 30) : Int).toNat) (l1.take ((mn (l1.length : Int) 30) : Int).toNat) a2 a3 t409)) else (none)) else (none)) else (none)) else (none)) else (none))
theorem astrolabelaw02_KaraMoves.mono_l : ∀ k, (∀ y0 y1 y2 y3 y4, LeO (astrolabelaw02_KaraMoves.j0 k y0 y1 y2 y3 y4) (astrolabelaw02_KaraMoves.j0 (k + 1) y0 y1 y2 y3 y4)) ∧ (∀ y0 y1 y2 y3 y4, LeO (astrolabelaw02_KaraMoves.j1 k y0 y1 y2 y3 y4) (astrolabelaw02_KaraMoves.j1 (k + 1) y0 y1 y2 y3 y4))
  | 0 => ⟨fun _ _ _ _ _ r h => by simp [astrolabelaw02_KaraMoves.j0] at h, fun _ _ _ _ _ r h => by simp [astrolabelaw02_KaraMoves.j1] at h⟩
  | k + 1 => by
    obtain ⟨ih0, ih1⟩ := astrolabelaw02_KaraMoves.mono_l k
    refine ⟨?_, ?_⟩
    · intro y0 y1 y2 y3 y4
      unfold astrolabelaw02_KaraMoves.j0
      repeat' first
      | (with_reducible exact ih0 _ _ _ _ _)
      | (with_reducible exact ih1 _ _ _ _ _)
      | (with_reducible exact astrolabelaw02_digits.mono _ _ _)
      | (with_reducible exact astrolabelaw02_examples.mono _)
      | (with_reducible exact kara_Mul.mono _ _ _)
      | (with_reducible exact nat_Shl.mono _ _ _)
      | (with_reducible exact nat_Trim.mono _ _)
      | (with_reducible exact LeO.refl _)
      | (with_reducible exact LeO.none _)
      | (with_reducible refine LeO.ite ?_ ?_)
      | (with_reducible refine LeO.bind ?_ (fun _ => ?_))
      | exact ih0 _ _ _ _ _
      | exact ih1 _ _ _ _ _
      | exact astrolabelaw02_digits.mono _ _ _
      | exact astrolabelaw02_examples.mono _
      | exact kara_Mul.mono _ _ _
      | exact nat_Shl.mono _ _ _
      | exact nat_Trim.mono _ _
      | exact LeO.none _
      | refine LeO.ite ?_ ?_
      | refine LeO.bind ?_ (fun _ => ?_)
    · intro y0 y1 y2 y3 y4
      unfold astrolabelaw02_KaraMoves.j1
      repeat' first
      | (with_reducible exact ih0 _ _ _ _ _)
      | (with_reducible exact ih1 _ _ _ _ _)
      | (with_reducible exact astrolabelaw02_digits.mono _ _ _)
      | (with_reducible exact astrolabelaw02_examples.mono _)
      | (with_reducible exact kara_Mul.mono _ _ _)
      | (with_reducible exact nat_Shl.mono _ _ _)
      | (with_reducible exact nat_Trim.mono _ _)
      | (with_reducible exact LeO.refl _)
      | (with_reducible exact LeO.none _)
      | (with_reducible refine LeO.ite ?_ ?_)
      | (with_reducible refine LeO.bind ?_ (fun _ => ?_))
      | exact ih0 _ _ _ _ _
      | exact ih1 _ _ _ _ _
      | exact astrolabelaw02_digits.mono _ _ _
      | exact astrolabelaw02_examples.mono _
      | exact kara_Mul.mono _ _ _
      | exact nat_Shl.mono _ _ _
      | exact nat_Trim.mono _ _
      | exact LeO.none _
      | refine LeO.ite ?_ ?_
      | refine LeO.bind ?_ (fun _ => ?_)
theorem astrolabelaw02_KaraMoves.mono : ∀ a0 a1 a2 a3 k, LeO (astrolabelaw02_KaraMoves.f k a0 a1 a2 a3) (astrolabelaw02_KaraMoves.f (k + 1) a0 a1 a2 a3) := by
  intro a0 a1 a2 a3 k
  obtain ⟨ih0, ih1⟩ := astrolabelaw02_KaraMoves.mono_l k
  unfold astrolabelaw02_KaraMoves.f
  repeat' first
      | (with_reducible exact ih0 _ _ _ _ _)
      | (with_reducible exact ih1 _ _ _ _ _)
      | (with_reducible exact astrolabelaw02_digits.mono _ _ _)
      | (with_reducible exact astrolabelaw02_examples.mono _)
      | (with_reducible exact kara_Mul.mono _ _ _)
      | (with_reducible exact nat_Shl.mono _ _ _)
      | (with_reducible exact nat_Trim.mono _ _)
      | (with_reducible exact LeO.refl _)
      | (with_reducible exact LeO.none _)
      | (with_reducible refine LeO.ite ?_ ?_)
      | (with_reducible refine LeO.bind ?_ (fun _ => ?_))
      | exact ih0 _ _ _ _ _
      | exact ih1 _ _ _ _ _
      | exact astrolabelaw02_digits.mono _ _ _
      | exact astrolabelaw02_examples.mono _
      | exact kara_Mul.mono _ _ _
      | exact nat_Shl.mono _ _ _
      | exact nat_Trim.mono _ _
      | exact LeO.none _
      | refine LeO.ite ?_ ?_
      | refine LeO.bind ?_ (fun _ => ?_)
set_option maxHeartbeats 8000000 in
set_option maxRecDepth 100000 in
theorem astrolabelaw02_KaraMoves.calls (k : Nat) (A0 : Option Addr) (c0 : Nat) (l0 : List Int) (A1 : Option Addr) (c1 : Nat) (l1 : List Int) (a2 : Int) (a3 : Int) (r : Bool) (w : World) (hr0 : Kd.C (Kd.int .u32) w A0 l0.length l0) (hc0 : l0.length ≤ c0) (hr1 : Kd.C (Kd.int .u32) w A1 l1.length l1) (hc1 : l1.length ≤ c1) (h : astrolabelaw02_KaraMoves.f k l0 l1 a2 a3 = some r) :
    Calls Try.prog 7 #[.slice A0 l0.length c0, .slice A1 l1.length c1, .int .i64 a2, .int .i64 a3] w fun e w' => e = .returned (.bool r) ∧ Below w.heap.size w w' := by
  have HR0 := Aside0.mk hr0
  have HC0 := Aside0.mk hc0
  clear hr0 hc0
  have HR1 := Aside0.mk hr1
  have HC1 := Aside0.mk hc1
  clear hr1 hc1
  have HB := Aside0.mk (Below.refl w.heap.size w)
  have H : ((astrolabelaw02_examples.f k).bind fun t409 => (if t409 = true then (if 0 ≤ (mn (l0.length : Int) 30) then (if (mn (l0.length : Int) 30) ≤ (l0.length : Int) then (if 0 ≤ (mn (l1.length : Int) 30) then (if (mn (l1.length : Int) 30) ≤ (l1.length : Int) then (if a2 < 0 then (astrolabelaw02_KaraMoves.j0 k (l0.take ((mn (l0.length : Int) 30) : Int).toNat) (l1.take ((mn (l1.length : Int) 30) : Int).toNat) (wrap64 (-(wrap64 (a2 + 1)))) a3 t409) else (astrolabelaw02_KaraMoves.j0 k (l0.take ((mn (l0.length : Int) 30) : Int).toNat) (l1.take ((mn (l1.length : Int) 30) : Int).toNat) a2 a3 t409)) else (none)) else (none)) else (none)) else (none)) else (none))) = some r := h
  clear h
  replace H := Option.bind_eq_some_iff.mp H
  obtain ⟨t409, A50, H⟩ := H
  replace H : (if t409 = true then (if 0 ≤ (mn (l0.length : Int) 30) then (if (mn (l0.length : Int) 30) ≤ (l0.length : Int) then (if 0 ≤ (mn (l1.length : Int) 30) then (if (mn (l1.length : Int) 30) ≤ (l1.length : Int) then (if a2 < 0 then (astrolabelaw02_KaraMoves.j0 k (l0.take ((mn (l0.length : Int) 30) : Int).toNat) (l1.take ((mn (l1.length : Int) 30) : Int).toNat) (wrap64 (-(wrap64 (a2 + 1)))) a3 t409) else (astrolabelaw02_KaraMoves.j0 k (l0.take ((mn (l0.length : Int) 30) : Int).toNat) (l1.take ((mn (l1.length : Int) 30) : Int).toNat) a2 a3 t409)) else (none)) else (none)) else (none)) else (none)) else (none)) = some r := H
  have A5 := Aside0.mk A50
  clear A50
  by_cases c6 : t409 = true
  · subst c6
    have H1 : (if 0 ≤ (mn (l0.length : Int) 30) then (if (mn (l0.length : Int) 30) ≤ (l0.length : Int) then (if 0 ≤ (mn (l1.length : Int) 30) then (if (mn (l1.length : Int) 30) ≤ (l1.length : Int) then (if a2 < 0 then (astrolabelaw02_KaraMoves.j0 k (l0.take ((mn (l0.length : Int) 30) : Int).toNat) (l1.take ((mn (l1.length : Int) 30) : Int).toNat) (wrap64 (-(wrap64 (a2 + 1)))) a3 true) else (astrolabelaw02_KaraMoves.j0 k (l0.take ((mn (l0.length : Int) 30) : Int).toNat) (l1.take ((mn (l1.length : Int) 30) : Int).toNat) a2 a3 true)) else (none)) else (none)) else (none)) else (none)) = some r := by rw [if_pos rfl] at H; exact H
    clear H
    have H := H1
    clear H1
    obtain ⟨ji7, hji7⟩ : ∃ j_ : Int, (mn (l0.length : Int) 30) = j_ := ⟨_, rfl⟩
    replace H : (if 0 ≤ (ji7) then (if (ji7) ≤ (l0.length : Int) then (if 0 ≤ (mn (l1.length : Int) 30) then (if (mn (l1.length : Int) 30) ≤ (l1.length : Int) then (if a2 < 0 then (astrolabelaw02_KaraMoves.j0 k (l0.take ((ji7) : Int).toNat) (l1.take ((mn (l1.length : Int) 30) : Int).toNat) (wrap64 (-(wrap64 (a2 + 1)))) a3 true) else (astrolabelaw02_KaraMoves.j0 k (l0.take ((ji7) : Int).toNat) (l1.take ((mn (l1.length : Int) 30) : Int).toNat) a2 a3 true)) else (none)) else (none)) else (none)) else (none)) = some r := by first | (rw [hji7] at H; exact H) | (simp only [hji7] at H ⊢; exact H)
    (try rw [hji7] at A5)
    (try (have hji7h : ji7 ≤ 30 := by (rw [← hji7]; unfold mn; (repeat' split) <;> omega)))
    (try (have hji7g : ji7 ≤ 64 := by omega))
    (try (have hji7l : 0 ≤ ji7 := by (rw [← hji7]; unfold mn; (repeat' split) <;> omega)))
    (try (have hji7m : 0 ≤ ji7 := by omega))
    have hji7_ : (if 30 < (l0.length : Int) then 30 else (l0.length : Int)) = ji7 := hji7
    by_cases c8 : 0 ≤ (ji7)
    · rw [if_pos c8] at H
      have c8b0 := eq_true c8
      have c8b1 : decide (0 ≤ (ji7)) = true := decide_eq_true c8
      clear c8
      by_cases c9 : (ji7) ≤ (l0.length : Int)
      · rw [if_pos c9] at H
        have c9b0 := eq_true c9
        have c9b1 : decide ((ji7) ≤ (l0.length : Int)) = true := decide_eq_true c9
        clear c9
        obtain ⟨ji10, hji10⟩ : ∃ j_ : Int, (mn (l1.length : Int) 30) = j_ := ⟨_, rfl⟩
        replace H : (if 0 ≤ (ji10) then (if (ji10) ≤ (l1.length : Int) then (if a2 < 0 then (astrolabelaw02_KaraMoves.j0 k (l0.take ((ji7) : Int).toNat) (l1.take ((ji10) : Int).toNat) (wrap64 (-(wrap64 (a2 + 1)))) a3 true) else (astrolabelaw02_KaraMoves.j0 k (l0.take ((ji7) : Int).toNat) (l1.take ((ji10) : Int).toNat) a2 a3 true)) else (none)) else (none)) = some r := by first | (rw [hji10] at H; exact H) | (simp only [hji10] at H ⊢; exact H)
        (try rw [hji10] at A5)
        (try (have hji10h : ji10 ≤ 30 := by (rw [← hji10]; unfold mn; (repeat' split) <;> omega)))
        (try (have hji10g : ji10 ≤ 64 := by omega))
        (try (have hji10l : 0 ≤ ji10 := by (rw [← hji10]; unfold mn; (repeat' split) <;> omega)))
        (try (have hji10m : 0 ≤ ji10 := by omega))
        have hji10_ : (if 30 < (l1.length : Int) then 30 else (l1.length : Int)) = ji10 := hji10
        by_cases c11 : 0 ≤ (ji10)
        · rw [if_pos c11] at H
          have c11b0 := eq_true c11
          have c11b1 : decide (0 ≤ (ji10)) = true := decide_eq_true c11
          clear c11
          by_cases c12 : (ji10) ≤ (l1.length : Int)
          · rw [if_pos c12] at H
            have c12b0 := eq_true c12
            have c12b1 : decide ((ji10) ≤ (l1.length : Int)) = true := decide_eq_true c12
            clear c12
            have HC13 := Aside0.mk H
            clear H
            go_enter Try.func7, Try.ntmps7
            go_upto_if 32 with (first | ((with_reducible refine gate_callee (f := 8) rfl ?_); refine goesL_ (some 18) rfl rfl Try.func8 (by kernel_rfl) rfl #[] rfl (by (try simp only [List.map_toArray, List.map_cons, List.map_nil]); first | done | rfl | (simp only [List.length_drop, List.length_take]; rfl)) ?_; (with_reducible refine (astrolabelaw02_examples.calls k  true _ A5.out).mono ?_); rintro e w14 ⟨rfl, hb⟩; refine ⟨_, rfl, ?_⟩; have n0_ := Aside0.mk (below_step (by repeat (first | (with_reducible first | exact HB.out | apply below_alloc | apply pw_below_drewN | apply below_drew1) | exact HB.out)) hb); clear HB; have HB := n0_; clear n0_; (try clear hb); (try clear hb2); (try clear hk); (try clear hi); obtain ⟨i015, hi015, _, hsz15, _⟩ := info_parts info31; obtain ⟨hcut15, hA15, hC15⟩ := print_take_of (P := Try.prog) (Value.int .u32) 0 25 31 .i64 Try.underlying25 hi015 hsz15 A0 c0 l0 (ji7) (of_decide_eq_true (by first | (with_reducible assumption) | assumption)) (of_decide_eq_true (by first | (with_reducible assumption) | assumption)) HC0.out; have HR410 := Aside0.mk (Kd.C_of_reads (h1 := fun _ => rfl) (hA15 _ (Kd.reads_of_C HR0.out))); have HC410 := Aside0.mk hC15; clear hA15 hC15 hi015 hsz15; obtain ⟨i016, hi016, _, hsz16, _⟩ := info_parts info31; obtain ⟨hcut16, hA16, hC16⟩ := print_take_of (P := Try.prog) (Value.int .u32) 0 25 31 .i64 Try.underlying25 hi016 hsz16 A1 c1 l1 (ji10) (of_decide_eq_true (by first | (with_reducible assumption) | assumption)) (of_decide_eq_true (by first | (with_reducible assumption) | assumption)) HC1.out; have HR411 := Aside0.mk (Kd.C_of_reads (h1 := fun _ => rfl) (hA16 _ (Kd.reads_of_C HR1.out))); have HC411 := Aside0.mk hC16; clear hA16 hC16 hi016 hsz16))
            (try simp only [Act.put, List.setIfInBounds_toArray, List.set_cons_zero, List.set_cons_succ])
            go_cut [2] (fun v2 wc => ∃ (kq : Nat) (x2_12 : Int), v2 = .int .i64 x2_12 ∧ Aside0 (astrolabelaw02_KaraMoves.j0 kq (l0.take ((ji7) : Int).toNat) (l1.take ((ji10) : Int).toNat) x2_12 a3 true = some r) ∧ Aside0 (kq ≤ k) ∧ Aside0 (Below w.heap.size w wc))
            case first =>
              have H := HC13.out
              clear HC13
              by_cases c17 : a2 < 0
              · rw [if_pos c17] at H
                have c17b0 : decide (a2 < 0) = true := decide_eq_true c17
                clear c17
                (first | rw [c17b0] | (simp only [i64_w, i32_w]; rw [c17b0]) | rw [c17b1] | skip)
                have H' := Aside0.mk H
                clear H
                go_wp2
                go_meet
                case rel => exact ⟨_, (wrap64 (-(wrap64 (a2 + 1)))), (by first | rfl | (simp; done) | (simp [*]; done)), H', ⟨by first | omega | exact Nat.le_refl _⟩, ⟨by repeat (first | (with_reducible first | exact HB.out | apply below_alloc | apply pw_below_drewN | apply below_drew1) | exact HB.out)⟩⟩
              · rw [if_neg c17] at H
                have c17b0 : decide (a2 < 0) = false := decide_eq_false c17
                clear c17
                (first | rw [c17b0] | (simp only [i64_w, i32_w]; rw [c17b0]) | rw [c17b1] | skip)
                have H' := Aside0.mk H
                clear H
                go_wp2
                go_meet
                case rel => exact ⟨_, (a2), (by first | rfl | (simp; done) | (simp [*]; done)), H', ⟨by first | omega | exact Nat.le_refl _⟩, ⟨by repeat (first | (with_reducible first | exact HB.out | apply below_alloc | apply pw_below_drewN | apply below_drew1) | exact HB.out)⟩⟩
            case rest =>
              clear HC13
              try clear c1
              try clear p2
              try clear c6
              try clear p6
              try clear c7
              try clear c8
              try clear c8b0
              try clear c8b1
              try clear c9
              try clear c9b0
              try clear c9b1
              try clear c11
              try clear c11b0
              try clear c11b1
              try clear c12
              try clear c12b0
              try clear c12b1
              try clear c17
              try clear c17b0
              try clear c17b1
              obtain ⟨kq, x2_12, rfl, HA, HJ12, HB⟩ := hcut
              cases kq with
              | zero => exact absurd HA.out (by simp [astrolabelaw02_KaraMoves.j0])
              | succ kj12 =>
                have H := HA.out
                clear HA
                simp only [astrolabelaw02_KaraMoves.j0] at H
                have HC18 := Aside0.mk H
                clear H
                go_upto_if 37 with (fail)
                go_cut [3] (fun v3 wc => ∃ (kq : Nat) (x3_17 : Int), v3 = .int .i64 x3_17 ∧ Aside0 (astrolabelaw02_KaraMoves.j1 kq (l0.take ((ji7) : Int).toNat) (l1.take ((ji10) : Int).toNat) x2_12 x3_17 true = some r) ∧ Aside0 (kq ≤ kj12) ∧ Aside0 (Below w.heap.size w wc))
                case first =>
                  have H := HC18.out
                  clear HC18
                  by_cases c19 : a3 < 0
                  · rw [if_pos c19] at H
                    have c19b0 : decide (a3 < 0) = true := decide_eq_true c19
                    clear c19
                    (first | rw [c19b0] | (simp only [i64_w, i32_w]; rw [c19b0]) | rw [c19b1] | skip)
                    have H' := Aside0.mk H
                    clear H
                    go_wp2
                    go_meet
                    case rel => exact ⟨_, (wrap64 (-(wrap64 (a3 + 1)))), (by first | rfl | (simp; done) | (simp [*]; done)), H', ⟨by have := HJ12.out; first | omega | exact Nat.le_refl _⟩, ⟨by repeat (first | (with_reducible first | exact HB.out | apply below_alloc | apply pw_below_drewN | apply below_drew1) | exact HB.out)⟩⟩
                  · rw [if_neg c19] at H
                    have c19b0 : decide (a3 < 0) = false := decide_eq_false c19
                    clear c19
                    (first | rw [c19b0] | (simp only [i64_w, i32_w]; rw [c19b0]) | rw [c19b1] | skip)
                    have H' := Aside0.mk H
                    clear H
                    go_wp2
                    go_meet
                    case rel => exact ⟨_, (a3), (by first | rfl | (simp; done) | (simp [*]; done)), H', ⟨by have := HJ12.out; first | omega | exact Nat.le_refl _⟩, ⟨by repeat (first | (with_reducible first | exact HB.out | apply below_alloc | apply pw_below_drewN | apply below_drew1) | exact HB.out)⟩⟩
                case rest =>
                  clear HC18
                  try clear c1
                  try clear p2
                  try clear c6
                  try clear p6
                  try clear c7
                  try clear c8
                  try clear c8b0
                  try clear c8b1
                  try clear c9
                  try clear c9b0
                  try clear c9b1
                  try clear c11
                  try clear c11b0
                  try clear c11b1
                  try clear c12
                  try clear c12b0
                  try clear c12b1
                  try clear c17
                  try clear c17b0
                  try clear c17b1
                  try clear c19
                  try clear c19b0
                  try clear c19b1
                  try clear p2
                  try clear p6
                  obtain ⟨kq, x3_17, rfl, HA, HJ17, HB⟩ := hcut
                  cases kq with
                  | zero => exact absurd HA.out (by simp [astrolabelaw02_KaraMoves.j1])
                  | succ kj17 =>
                    have H := HA.out
                    clear HA
                    simp only [astrolabelaw02_KaraMoves.j1] at H
                    replace H := Option.bind_eq_some_iff.mp H
                    obtain ⟨⟨t412, t415⟩, A200, H⟩ := H
                    replace H : ((nat_Shl.f kj17 (l1.take ((ji10) : Int).toNat) (Int.tmod x3_17 601)).bind fun bt416 => ((kara_Mul.f kj17 (l0.take ((ji7) : Int).toNat) (l1.take ((ji10) : Int).toNat)).bind fun t420 => ((nat_Shl.f kj17 t420 (wrap64 ((Int.tmod x2_12 601) + (Int.tmod x3_17 601)))).bind fun bt423 => ((kara_Mul.f kj17 t412 bt416.1).bind fun t427 => ((astrolabelaw02_digits.f kj17 t427 bt423.1).bind fun t430 => ((kara_Mul.f kj17 (l0.take ((ji7) : Int).toNat) (([1] : List Int))).bind fun t434 => ((nat_Trim.f kj17 (l0.take ((ji7) : Int).toNat)).bind fun t437 => ((astrolabelaw02_digits.f kj17 t434 t437).bind fun t440 => (if true = true then (if t415 = true then (if bt416.2 = true then (if bt423.2 = true then (if t430 = true then (if t440 = true then ((kara_Mul.f kj17 (l0.take ((ji7) : Int).toNat) ([] : List Int)).bind fun t441 => (some ((t441.length : Int) == 0))) else (none)) else (none)) else (none)) else (none)) else (none)) else (none)))))))))) = some r := H
                    have A20 := Aside0.mk A200
                    clear A200
                    replace H := Option.bind_eq_some_iff.mp H
                    obtain ⟨⟨t416, t419⟩, A210, H⟩ := H
                    replace H : ((kara_Mul.f kj17 (l0.take ((ji7) : Int).toNat) (l1.take ((ji10) : Int).toNat)).bind fun t420 => ((nat_Shl.f kj17 t420 (wrap64 ((Int.tmod x2_12 601) + (Int.tmod x3_17 601)))).bind fun bt423 => ((kara_Mul.f kj17 t412 t416).bind fun t427 => ((astrolabelaw02_digits.f kj17 t427 bt423.1).bind fun t430 => ((kara_Mul.f kj17 (l0.take ((ji7) : Int).toNat) (([1] : List Int))).bind fun t434 => ((nat_Trim.f kj17 (l0.take ((ji7) : Int).toNat)).bind fun t437 => ((astrolabelaw02_digits.f kj17 t434 t437).bind fun t440 => (if true = true then (if t415 = true then (if t419 = true then (if bt423.2 = true then (if t430 = true then (if t440 = true then ((kara_Mul.f kj17 (l0.take ((ji7) : Int).toNat) ([] : List Int)).bind fun t441 => (some ((t441.length : Int) == 0))) else (none)) else (none)) else (none)) else (none)) else (none)) else (none))))))))) = some r := H
                    have A21 := Aside0.mk A210
                    clear A210
                    replace H := Option.bind_eq_some_iff.mp H
                    obtain ⟨t420, A220, H⟩ := H
                    replace H : ((nat_Shl.f kj17 t420 (wrap64 ((Int.tmod x2_12 601) + (Int.tmod x3_17 601)))).bind fun bt423 => ((kara_Mul.f kj17 t412 t416).bind fun t427 => ((astrolabelaw02_digits.f kj17 t427 bt423.1).bind fun t430 => ((kara_Mul.f kj17 (l0.take ((ji7) : Int).toNat) (([1] : List Int))).bind fun t434 => ((nat_Trim.f kj17 (l0.take ((ji7) : Int).toNat)).bind fun t437 => ((astrolabelaw02_digits.f kj17 t434 t437).bind fun t440 => (if true = true then (if t415 = true then (if t419 = true then (if bt423.2 = true then (if t430 = true then (if t440 = true then ((kara_Mul.f kj17 (l0.take ((ji7) : Int).toNat) ([] : List Int)).bind fun t441 => (some ((t441.length : Int) == 0))) else (none)) else (none)) else (none)) else (none)) else (none)) else (none)))))))) = some r := H
                    have A22 := Aside0.mk A220
                    clear A220
                    replace H := Option.bind_eq_some_iff.mp H
                    obtain ⟨⟨t423, t426⟩, A230, H⟩ := H
                    replace H : ((kara_Mul.f kj17 t412 t416).bind fun t427 => ((astrolabelaw02_digits.f kj17 t427 t423).bind fun t430 => ((kara_Mul.f kj17 (l0.take ((ji7) : Int).toNat) (([1] : List Int))).bind fun t434 => ((nat_Trim.f kj17 (l0.take ((ji7) : Int).toNat)).bind fun t437 => ((astrolabelaw02_digits.f kj17 t434 t437).bind fun t440 => (if true = true then (if t415 = true then (if t419 = true then (if t426 = true then (if t430 = true then (if t440 = true then ((kara_Mul.f kj17 (l0.take ((ji7) : Int).toNat) ([] : List Int)).bind fun t441 => (some ((t441.length : Int) == 0))) else (none)) else (none)) else (none)) else (none)) else (none)) else (none))))))) = some r := H
                    have A23 := Aside0.mk A230
                    clear A230
                    replace H := Option.bind_eq_some_iff.mp H
                    obtain ⟨t427, A240, H⟩ := H
                    replace H : ((astrolabelaw02_digits.f kj17 t427 t423).bind fun t430 => ((kara_Mul.f kj17 (l0.take ((ji7) : Int).toNat) (([1] : List Int))).bind fun t434 => ((nat_Trim.f kj17 (l0.take ((ji7) : Int).toNat)).bind fun t437 => ((astrolabelaw02_digits.f kj17 t434 t437).bind fun t440 => (if true = true then (if t415 = true then (if t419 = true then (if t426 = true then (if t430 = true then (if t440 = true then ((kara_Mul.f kj17 (l0.take ((ji7) : Int).toNat) ([] : List Int)).bind fun t441 => (some ((t441.length : Int) == 0))) else (none)) else (none)) else (none)) else (none)) else (none)) else (none)))))) = some r := H
                    have A24 := Aside0.mk A240
                    clear A240
                    replace H := Option.bind_eq_some_iff.mp H
                    obtain ⟨t430, A250, H⟩ := H
                    replace H : ((kara_Mul.f kj17 (l0.take ((ji7) : Int).toNat) (([1] : List Int))).bind fun t434 => ((nat_Trim.f kj17 (l0.take ((ji7) : Int).toNat)).bind fun t437 => ((astrolabelaw02_digits.f kj17 t434 t437).bind fun t440 => (if true = true then (if t415 = true then (if t419 = true then (if t426 = true then (if t430 = true then (if t440 = true then ((kara_Mul.f kj17 (l0.take ((ji7) : Int).toNat) ([] : List Int)).bind fun t441 => (some ((t441.length : Int) == 0))) else (none)) else (none)) else (none)) else (none)) else (none)) else (none))))) = some r := H
                    have A25 := Aside0.mk A250
                    clear A250
                    obtain ⟨y431, hy431⟩ : ∃ y_ : List Int, y_ = (([1] : List Int)) := ⟨_, rfl⟩
                    replace H : ((kara_Mul.f kj17 (l0.take ((ji7) : Int).toNat) y431).bind fun t434 => ((nat_Trim.f kj17 (l0.take ((ji7) : Int).toNat)).bind fun t437 => ((astrolabelaw02_digits.f kj17 t434 t437).bind fun t440 => (if true = true then (if t415 = true then (if t419 = true then (if t426 = true then (if t430 = true then (if t440 = true then ((kara_Mul.f kj17 (l0.take ((ji7) : Int).toNat) ([] : List Int)).bind fun t441 => (some ((t441.length : Int) == 0))) else (none)) else (none)) else (none)) else (none)) else (none)) else (none))))) = some r := by first | (rw [hy431]; with_reducible exact H) | (have H2_ := (Option.bind_some _ _).symm.trans H; rw [hy431]; with_reducible exact H2_) | (have H2_ := (Option.bind_some _ _).symm.trans H; with_reducible exact H2_) | with_reducible exact H | (rw [hy431]; exact H) | exact H
                    have Ny431 := Aside0.mk hy431
                    clear hy431
                    replace H := Option.bind_eq_some_iff.mp H
                    obtain ⟨t434, A260, H⟩ := H
                    replace H : ((nat_Trim.f kj17 (l0.take ((ji7) : Int).toNat)).bind fun t437 => ((astrolabelaw02_digits.f kj17 t434 t437).bind fun t440 => (if true = true then (if t415 = true then (if t419 = true then (if t426 = true then (if t430 = true then (if t440 = true then ((kara_Mul.f kj17 (l0.take ((ji7) : Int).toNat) ([] : List Int)).bind fun t441 => (some ((t441.length : Int) == 0))) else (none)) else (none)) else (none)) else (none)) else (none)) else (none)))) = some r := H
                    have A26 := Aside0.mk A260
                    clear A260
                    replace H := Option.bind_eq_some_iff.mp H
                    obtain ⟨t437, A270, H⟩ := H
                    replace H : ((astrolabelaw02_digits.f kj17 t434 t437).bind fun t440 => (if true = true then (if t415 = true then (if t419 = true then (if t426 = true then (if t430 = true then (if t440 = true then ((kara_Mul.f kj17 (l0.take ((ji7) : Int).toNat) ([] : List Int)).bind fun t441 => (some ((t441.length : Int) == 0))) else (none)) else (none)) else (none)) else (none)) else (none)) else (none))) = some r := H
                    have A27 := Aside0.mk A270
                    clear A270
                    replace H := Option.bind_eq_some_iff.mp H
                    obtain ⟨t440, A280, H⟩ := H
                    replace H : (if true = true then (if t415 = true then (if t419 = true then (if t426 = true then (if t430 = true then (if t440 = true then ((kara_Mul.f kj17 (l0.take ((ji7) : Int).toNat) ([] : List Int)).bind fun t441 => (some ((t441.length : Int) == 0))) else (none)) else (none)) else (none)) else (none)) else (none)) else (none)) = some r := H
                    have A28 := Aside0.mk A280
                    clear A280
                    replace H : (if t415 = true then (if t419 = true then (if t426 = true then (if t430 = true then (if t440 = true then ((kara_Mul.f kj17 (l0.take ((ji7) : Int).toNat) ([] : List Int)).bind fun t441 => (some ((t441.length : Int) == 0))) else (none)) else (none)) else (none)) else (none)) else (none)) = some r := by first | exact H | (rw [if_pos rfl] at H; exact H)
                    by_cases c29 : t415 = true
                    · subst c29
                      have H1 : (if t419 = true then (if t426 = true then (if t430 = true then (if t440 = true then ((kara_Mul.f kj17 (l0.take ((ji7) : Int).toNat) ([] : List Int)).bind fun t441 => (some ((t441.length : Int) == 0))) else (none)) else (none)) else (none)) else (none)) = some r := by rw [if_pos rfl] at H; exact H
                      clear H
                      have H := H1
                      clear H1
                      by_cases c30 : t419 = true
                      · subst c30
                        have H1 : (if t426 = true then (if t430 = true then (if t440 = true then ((kara_Mul.f kj17 (l0.take ((ji7) : Int).toNat) ([] : List Int)).bind fun t441 => (some ((t441.length : Int) == 0))) else (none)) else (none)) else (none)) = some r := by rw [if_pos rfl] at H; exact H
                        clear H
                        have H := H1
                        clear H1
                        by_cases c31 : t426 = true
                        · subst c31
                          have H1 : (if t430 = true then (if t440 = true then ((kara_Mul.f kj17 (l0.take ((ji7) : Int).toNat) ([] : List Int)).bind fun t441 => (some ((t441.length : Int) == 0))) else (none)) else (none)) = some r := by rw [if_pos rfl] at H; exact H
                          clear H
                          have H := H1
                          clear H1
                          by_cases c32 : t430 = true
                          · subst c32
                            have H1 : (if t440 = true then ((kara_Mul.f kj17 (l0.take ((ji7) : Int).toNat) ([] : List Int)).bind fun t441 => (some ((t441.length : Int) == 0))) else (none)) = some r := by rw [if_pos rfl] at H; exact H
                            clear H
                            have H := H1
                            clear H1
                            by_cases c33 : t440 = true
                            · subst c33
                              have H1 : ((kara_Mul.f kj17 (l0.take ((ji7) : Int).toNat) ([] : List Int)).bind fun t441 => (some ((t441.length : Int) == 0))) = some r := by rw [if_pos rfl] at H; exact H
                              clear H
                              have H := H1
                              clear H1
                              replace H := Option.bind_eq_some_iff.mp H
                              obtain ⟨t441, A340, H⟩ := H
                              replace H : (some ((t441.length : Int) == 0)) = some r := H
                              have A34 := Aside0.mk A340
                              clear A340
                              obtain rfl := Option.some.inj H
                              go_wp2_with (first | ((with_reducible refine gate_callee (f := 16) rfl ?_); refine goesL_ (some 48) rfl rfl Try.func16 (by kernel_rfl) rfl #[.slice A0 (l0.take ((ji7) : Int).toNat).length c0, .int .i64 (Int.tmod x2_12 601)] rfl (by (try simp only [List.map_toArray, List.map_cons, List.map_nil]); first | done | (rw [show (l0.take ((ji7) : Int).toNat).length = (ji7).toNat from (by rw [List.length_take]; have h_ : ((ji7) : Int) ≤ (l0.length : Int) := (by first | exact of_decide_eq_true (by first | (with_reducible assumption) | assumption) | (rw [← hji7]; unfold mn; split <;> omega)); omega)] <;> rfl) | (simp only [hji7]; rfl) | rfl | (simp only [List.length_drop, List.length_take]; rfl)) ?_; (with_reducible refine (nat_Shl.calls kj17 (fun k_ => k_ < w.heap.size) _ _ (l0.take ((ji7) : Int).toNat) (Int.tmod x2_12 601) t412 true _ ?side1 A20.out).mono ?_); (case side1 => exact Kd.V_mk HC410.out (Kd.F_below (Kd.C_F (Kd.heap_int .u32) HR410.out) (by repeat (first | (with_reducible first | exact HB.out | apply below_alloc | apply pw_below_drewN | apply below_drew1) | exact HB.out)))); rintro e w35 ⟨v413, rfl, ho0, hb⟩; refine ⟨_, rfl, ?_⟩; have n0_ := Aside0.mk (Kd.V_lower (Kd.V_mono (ok' := fun k_ => True) ho0 (fun k_ hk_ => trivial)) (below_size (by repeat (first | (with_reducible first | exact HB.out | apply below_alloc | apply pw_below_drewN | apply below_drew1) | exact HB.out)))); have n1_ := Aside0.mk (below_step (by repeat (first | (with_reducible first | exact HB.out | apply below_alloc | apply pw_below_drewN | apply below_drew1) | exact HB.out)) hb); clear HB; have HO414 := n0_; have HB := n1_; clear n0_ n1_; (try clear hb); (try clear hb2); (try clear hk); (try clear hi); (try clear ho0)) | ((with_reducible refine gate_callee (f := 16) rfl ?_); refine goesL_ (some 54) rfl rfl Try.func16 (by kernel_rfl) rfl #[.slice A1 (l1.take ((ji10) : Int).toNat).length c1, .int .i64 (Int.tmod x3_17 601)] rfl (by (try simp only [List.map_toArray, List.map_cons, List.map_nil]); first | done | (rw [show (l1.take ((ji10) : Int).toNat).length = (ji10).toNat from (by rw [List.length_take]; have h_ : ((ji10) : Int) ≤ (l1.length : Int) := (by first | exact of_decide_eq_true (by first | (with_reducible assumption) | assumption) | (rw [← hji10]; unfold mn; split <;> omega)); omega)] <;> rfl) | (simp only [hji10]; rfl) | rfl | (simp only [List.length_drop, List.length_take]; rfl)) ?_; (with_reducible refine (nat_Shl.calls kj17 (fun k_ => k_ < w.heap.size) _ _ (l1.take ((ji10) : Int).toNat) (Int.tmod x3_17 601) t416 true _ ?side1 A21.out).mono ?_); (case side1 => exact Kd.V_mk HC411.out (Kd.F_below (Kd.C_F (Kd.heap_int .u32) HR411.out) (by repeat (first | (with_reducible first | exact HB.out | apply below_alloc | apply pw_below_drewN | apply below_drew1) | exact HB.out)))); rintro e w36 ⟨v417, rfl, ho0, hb⟩; refine ⟨_, rfl, ?_⟩; have n0_ := Aside0.mk (Kd.V_below (by (with_reducible repeat (first | apply Kd.V_alloc | apply Kd.V_drewN | apply Kd.V_drew)); exact HO414.out) hb); have n1_ := Aside0.mk (Kd.V_lower (Kd.V_mono (ok' := fun k_ => True) ho0 (fun k_ hk_ => trivial)) (below_size (by repeat (first | (with_reducible first | exact HB.out | apply below_alloc | apply pw_below_drewN | apply below_drew1) | exact HB.out)))); have n2_ := Aside0.mk (below_step (by repeat (first | (with_reducible first | exact HB.out | apply below_alloc | apply pw_below_drewN | apply below_drew1) | exact HB.out)) hb); clear HO414; clear HB; have HO414 := n0_; have HO418 := n1_; have HB := n2_; clear n0_ n1_ n2_; (try clear hb); (try clear hb2); (try clear hk); (try clear hi); (try clear ho0)) | ((with_reducible refine gate_callee (f := 11) rfl ?_); refine goesL_ (some 60) rfl rfl Try.func11 (by kernel_rfl) rfl #[.slice A0 (l0.take ((ji7) : Int).toNat).length c0, .slice A1 (l1.take ((ji10) : Int).toNat).length c1] rfl (by (try simp only [List.map_toArray, List.map_cons, List.map_nil]); first | done | (rw [show (l0.take ((ji7) : Int).toNat).length = (ji7).toNat from (by rw [List.length_take]; have h_ : ((ji7) : Int) ≤ (l0.length : Int) := (by first | exact of_decide_eq_true (by first | (with_reducible assumption) | assumption) | (rw [← hji7]; unfold mn; split <;> omega)); omega)] <;> rfl) | (rw [show (l1.take ((ji10) : Int).toNat).length = (ji10).toNat from (by rw [List.length_take]; have h_ : ((ji10) : Int) ≤ (l1.length : Int) := (by first | exact of_decide_eq_true (by first | (with_reducible assumption) | assumption) | (rw [← hji10]; unfold mn; split <;> omega)); omega)] <;> rfl) | (rw [show (l0.take ((ji7) : Int).toNat).length = (ji7).toNat from (by rw [List.length_take]; have h_ : ((ji7) : Int) ≤ (l0.length : Int) := (by first | exact of_decide_eq_true (by first | (with_reducible assumption) | assumption) | (rw [← hji7]; unfold mn; split <;> omega)); omega), show (l1.take ((ji10) : Int).toNat).length = (ji10).toNat from (by rw [List.length_take]; have h_ : ((ji10) : Int) ≤ (l1.length : Int) := (by first | exact of_decide_eq_true (by first | (with_reducible assumption) | assumption) | (rw [← hji10]; unfold mn; split <;> omega)); omega)] <;> rfl) | (simp only [hji10, hji7]; rfl) | rfl | (simp only [List.length_drop, List.length_take]; rfl)) ?_; (with_reducible refine (kara_Mul.calls kj17 _ _ (l0.take ((ji7) : Int).toNat) _ _ (l1.take ((ji10) : Int).toNat) t420 _ ?side1 ?side2 ?side3 ?side4 A22.out).mono ?_); (case side1 => repeat (first | exact (Kd.C_below HR410.out HB.out) | (with_reducible refine Kd.C_alloc ?_ _) | (with_reducible refine Kd.C_drewN ?_ _) | (with_reducible refine Kd.C_drew ?_))); (case side2 => exact HC410.out); (case side3 => repeat (first | exact (Kd.C_below HR411.out HB.out) | (with_reducible refine Kd.C_alloc ?_ _) | (with_reducible refine Kd.C_drewN ?_ _) | (with_reducible refine Kd.C_drew ?_))); (case side4 => exact HC411.out); rintro e w37 ⟨v421, rfl, ho0, hb⟩; refine ⟨_, rfl, ?_⟩; have n0_ := Aside0.mk (Kd.V_below (by (with_reducible repeat (first | apply Kd.V_alloc | apply Kd.V_drewN | apply Kd.V_drew)); exact HO414.out) hb); have n1_ := Aside0.mk (Kd.V_below (by (with_reducible repeat (first | apply Kd.V_alloc | apply Kd.V_drewN | apply Kd.V_drew)); exact HO418.out) hb); have n2_ := Aside0.mk (Kd.V_lower (Kd.V_mono (ok' := fun k_ => True) ho0 (fun k_ hk_ => trivial)) (below_size (by repeat (first | (with_reducible first | exact HB.out | apply below_alloc | apply pw_below_drewN | apply below_drew1) | exact HB.out)))); have n3_ := Aside0.mk (below_step (by repeat (first | (with_reducible first | exact HB.out | apply below_alloc | apply pw_below_drewN | apply below_drew1) | exact HB.out)) hb); clear HO414; clear HO418; clear HB; have HO414 := n0_; have HO418 := n1_; have HO422 := n2_; have HB := n3_; clear n0_ n1_ n2_ n3_; (try clear hb); (try clear hb2); (try clear hk); (try clear hi); (try clear ho0); obtain ⟨Ao38, co38, eo38⟩ := Kd.V_slice HO422.out; subst eo38) | ((with_reducible refine gate_callee (f := 16) rfl ?_); refine goesL_ (some 64) rfl rfl Try.func16 (by kernel_rfl) rfl #[.slice Ao38 t420.length co38, .int .i64 (wrap64 ((Int.tmod x2_12 601) + (Int.tmod x3_17 601)))] rfl (by (try simp only [List.map_toArray, List.map_cons, List.map_nil]); first | done | rfl | (simp only [List.length_drop, List.length_take]; rfl)) ?_; (with_reducible refine (nat_Shl.calls kj17 (fun k_ => True) _ _ t420 (wrap64 ((Int.tmod x2_12 601) + (Int.tmod x3_17 601))) t423 true _ ?side1 A23.out).mono ?_); (case side1 => exact HO422.out); rintro e w39 ⟨v424, rfl, ho0, hb⟩; refine ⟨_, rfl, ?_⟩; have n0_ := Aside0.mk (Kd.V_below (by (with_reducible repeat (first | apply Kd.V_alloc | apply Kd.V_drewN | apply Kd.V_drew)); exact HO414.out) hb); have n1_ := Aside0.mk (Kd.V_below (by (with_reducible repeat (first | apply Kd.V_alloc | apply Kd.V_drewN | apply Kd.V_drew)); exact HO418.out) hb); have n2_ := Aside0.mk (Kd.V_below (by (with_reducible repeat (first | apply Kd.V_alloc | apply Kd.V_drewN | apply Kd.V_drew)); exact HO422.out) hb); have n3_ := Aside0.mk (Kd.V_lower (Kd.V_mono (ok' := fun k_ => True) ho0 (fun k_ hk_ => trivial)) (below_size (by repeat (first | (with_reducible first | exact HB.out | apply below_alloc | apply pw_below_drewN | apply below_drew1) | exact HB.out)))); have n4_ := Aside0.mk (below_step (by repeat (first | (with_reducible first | exact HB.out | apply below_alloc | apply pw_below_drewN | apply below_drew1) | exact HB.out)) hb); clear HO414; clear HO418; clear HO422; clear HB; have HO414 := n0_; have HO418 := n1_; have HO422 := n2_; have HO425 := n3_; have HB := n4_; clear n0_ n1_ n2_ n3_ n4_; (try clear hb); (try clear hb2); (try clear hk); (try clear hi); (try clear ho0); obtain ⟨Ao40, co40, eo40⟩ := Kd.V_slice HO414.out; subst eo40; obtain ⟨Ao41, co41, eo41⟩ := Kd.V_slice HO418.out; subst eo41) | ((with_reducible refine gate_callee (f := 11) rfl ?_); refine goesL_ (some 69) rfl rfl Try.func11 (by kernel_rfl) rfl #[.slice Ao40 t412.length co40, .slice Ao41 t416.length co41] rfl (by (try simp only [List.map_toArray, List.map_cons, List.map_nil]); first | done | rfl | (simp only [List.length_drop, List.length_take]; rfl)) ?_; (with_reducible refine (kara_Mul.calls kj17 _ _ t412 _ _ t416 t427 _ ?side1 ?side2 ?side3 ?side4 A24.out).mono ?_); (case side1 => repeat (first | exact (Kd.V_reads' HO414.out).2.2 | (with_reducible refine Kd.C_alloc ?_ _) | (with_reducible refine Kd.C_drewN ?_ _) | (with_reducible refine Kd.C_drew ?_))); (case side2 => exact (Kd.V_reads' HO414.out).2.1); (case side3 => repeat (first | exact (Kd.V_reads' HO418.out).2.2 | (with_reducible refine Kd.C_alloc ?_ _) | (with_reducible refine Kd.C_drewN ?_ _) | (with_reducible refine Kd.C_drew ?_))); (case side4 => exact (Kd.V_reads' HO418.out).2.1); rintro e w42 ⟨v428, rfl, ho0, hb⟩; refine ⟨_, rfl, ?_⟩; have n0_ := Aside0.mk (Kd.V_below (by (with_reducible repeat (first | apply Kd.V_alloc | apply Kd.V_drewN | apply Kd.V_drew)); exact HO414.out) hb); have n1_ := Aside0.mk (Kd.V_below (by (with_reducible repeat (first | apply Kd.V_alloc | apply Kd.V_drewN | apply Kd.V_drew)); exact HO418.out) hb); have n2_ := Aside0.mk (Kd.V_below (by (with_reducible repeat (first | apply Kd.V_alloc | apply Kd.V_drewN | apply Kd.V_drew)); exact HO422.out) hb); have n3_ := Aside0.mk (Kd.V_below (by (with_reducible repeat (first | apply Kd.V_alloc | apply Kd.V_drewN | apply Kd.V_drew)); exact HO425.out) hb); have n4_ := Aside0.mk (Kd.V_lower (Kd.V_mono (ok' := fun k_ => True) ho0 (fun k_ hk_ => trivial)) (below_size (by repeat (first | (with_reducible first | exact HB.out | apply below_alloc | apply pw_below_drewN | apply below_drew1) | exact HB.out)))); have n5_ := Aside0.mk (below_step (by repeat (first | (with_reducible first | exact HB.out | apply below_alloc | apply pw_below_drewN | apply below_drew1) | exact HB.out)) hb); clear HO414; clear HO418; clear HO422; clear HO425; clear HB; have HO414 := n0_; have HO418 := n1_; have HO422 := n2_; have HO425 := n3_; have HO429 := n4_; have HB := n5_; clear n0_ n1_ n2_ n3_ n4_ n5_; (try clear hb); (try clear hb2); (try clear hk); (try clear hi); (try clear ho0); obtain ⟨Ao43, co43, eo43⟩ := Kd.V_slice HO429.out; subst eo43; obtain ⟨Ao44, co44, eo44⟩ := Kd.V_slice HO425.out; subst eo44) | ((with_reducible refine gate_callee (f := 10) rfl ?_); refine goesL_ (some 71) rfl rfl Try.func10 (by kernel_rfl) rfl #[.slice Ao43 t427.length co43, .slice Ao44 t423.length co44] rfl (by (try simp only [List.map_toArray, List.map_cons, List.map_nil]); first | done | rfl | (simp only [List.length_drop, List.length_take]; rfl)) ?_; (with_reducible refine (astrolabelaw02_digits.calls kj17 _ _ t427 _ _ t423 true _ ?side1 ?side2 ?side3 ?side4 A25.out).mono ?_); (case side1 => repeat (first | exact (Kd.V_reads' HO429.out).2.2 | (with_reducible refine Kd.C_alloc ?_ _) | (with_reducible refine Kd.C_drewN ?_ _) | (with_reducible refine Kd.C_drew ?_))); (case side2 => exact (Kd.V_reads' HO429.out).2.1); (case side3 => repeat (first | exact (Kd.V_reads' HO425.out).2.2 | (with_reducible refine Kd.C_alloc ?_ _) | (with_reducible refine Kd.C_drewN ?_ _) | (with_reducible refine Kd.C_drew ?_))); (case side4 => exact (Kd.V_reads' HO425.out).2.1); rintro e w' ⟨rfl, ⟨nd, rfl⟩⟩; refine ⟨_, rfl, ?_⟩) | ((with_reducible refine gate_dst (N := 73) rfl ?_); (try (refine gate_guard (by rfl) ?_; dsimp only)); refine Kd.R_lit (Kd.int .u32) _ 31 ?hg (N := 73) ?hd (xs := ([1] : List Int)) (inner := [.int .u32 1]) (ok := fun _ => True) (okp := fun _ => True) ?hr ?hp (fun _ hk => hk) trivial (Below.refl _ _) (Nat.le_refl _) (by simp) ?_; (case hd => rfl); (case hg => rfl); (case hr => first | (go_simp; done) | (go_simp; rfl)); (case hp => exact (Reps.one (show Kd.M (Kd.int .u32) _ _ _ 1 [.int .u32 1] from rfl) (Reps.none _ _))); intro v432 w45 ho46 hb hg_ hnew_; clear hg_ hnew_; (first | rw [← Ny431.out] at ho46 | (simp only [Int.reduceToNat] at ho46; rw [← Ny431.out] at ho46)); have n0_ := Aside0.mk (Kd.V_elder' (by (with_reducible repeat (first | apply Kd.V_alloc | apply Kd.V_drewN | apply Kd.V_drew)); exact HO414.out) (Kd.R_base ho46) hb); have n1_ := Aside0.mk (Kd.V_elder' (by (with_reducible repeat (first | apply Kd.V_alloc | apply Kd.V_drewN | apply Kd.V_drew)); exact HO418.out) (Kd.R_base ho46) hb); have n2_ := Aside0.mk (Kd.V_elder' (by (with_reducible repeat (first | apply Kd.V_alloc | apply Kd.V_drewN | apply Kd.V_drew)); exact HO422.out) (Kd.R_base ho46) hb); have n3_ := Aside0.mk (Kd.V_elder' (by (with_reducible repeat (first | apply Kd.V_alloc | apply Kd.V_drewN | apply Kd.V_drew)); exact HO425.out) (Kd.R_base ho46) hb); have n4_ := Aside0.mk (Kd.V_elder' (by (with_reducible repeat (first | apply Kd.V_alloc | apply Kd.V_drewN | apply Kd.V_drew)); exact HO429.out) (Kd.R_base ho46) hb); have n5_ := Aside0.mk (Kd.R_lower ho46 (below_size (by repeat (first | (with_reducible first | exact HB.out | apply below_alloc | apply pw_below_drewN | apply below_drew1) | exact HB.out)))); have n6_ := Aside0.mk (below_step (by repeat (first | (with_reducible first | exact HB.out | apply below_alloc | apply pw_below_drewN | apply below_drew1) | exact HB.out)) hb); clear HO414; clear HO418; clear HO422; clear HO425; clear HO429; clear HB; have HO414 := n0_; have HO418 := n1_; have HO422 := n2_; have HO425 := n3_; have HO429 := n4_; have HO433 := n5_; have HB := n6_; clear n0_ n1_ n2_ n3_ n4_ n5_ n6_; clear hb ho46; obtain ⟨Ao47, co47, eo47⟩ := Kd.R_slice HO433.out; subst eo47) | ((with_reducible refine gate_callee (f := 11) rfl ?_); refine goesL_ (some 74) rfl rfl Try.func11 (by kernel_rfl) rfl #[.slice A0 (l0.take ((ji7) : Int).toNat).length c0, .slice Ao47 y431.length co47] rfl (by (try simp only [List.map_toArray, List.map_cons, List.map_nil]); first | done | (rw [show (l0.take ((ji7) : Int).toNat).length = (ji7).toNat from (by rw [List.length_take]; have h_ : ((ji7) : Int) ≤ (l0.length : Int) := (by first | exact of_decide_eq_true (by first | (with_reducible assumption) | assumption) | (rw [← hji7]; unfold mn; split <;> omega)); omega)] <;> rfl) | (simp only [hji7]; rfl) | rfl | (simp only [List.length_drop, List.length_take]; rfl)) ?_; (with_reducible refine (kara_Mul.calls kj17 _ _ (l0.take ((ji7) : Int).toNat) _ _ y431 t434 _ ?side1 ?side2 ?side3 ?side4 A26.out).mono ?_); (case side1 => repeat (first | exact (Kd.C_below HR410.out HB.out) | (with_reducible refine Kd.C_alloc ?_ _) | (with_reducible refine Kd.C_drewN ?_ _) | (with_reducible refine Kd.C_drew ?_))); (case side2 => exact HC410.out); (case side3 => repeat (first | exact (Kd.R_reads' HO433.out).2.2 | (with_reducible refine Kd.C_alloc ?_ _) | (with_reducible refine Kd.C_drewN ?_ _) | (with_reducible refine Kd.C_drew ?_))); (case side4 => exact (Kd.R_reads' HO433.out).2.1); rintro e w48 ⟨v435, rfl, ho0, hb⟩; refine ⟨_, rfl, ?_⟩; have n0_ := Aside0.mk (Kd.V_below (by (with_reducible repeat (first | apply Kd.V_alloc | apply Kd.V_drewN | apply Kd.V_drew)); exact HO414.out) hb); have n1_ := Aside0.mk (Kd.V_below (by (with_reducible repeat (first | apply Kd.V_alloc | apply Kd.V_drewN | apply Kd.V_drew)); exact HO418.out) hb); have n2_ := Aside0.mk (Kd.V_below (by (with_reducible repeat (first | apply Kd.V_alloc | apply Kd.V_drewN | apply Kd.V_drew)); exact HO422.out) hb); have n3_ := Aside0.mk (Kd.V_below (by (with_reducible repeat (first | apply Kd.V_alloc | apply Kd.V_drewN | apply Kd.V_drew)); exact HO425.out) hb); have n4_ := Aside0.mk (Kd.V_below (by (with_reducible repeat (first | apply Kd.V_alloc | apply Kd.V_drewN | apply Kd.V_drew)); exact HO429.out) hb); have n5_ := Aside0.mk (Kd.R_below (by (with_reducible repeat (first | apply Kd.R_alloc | apply Kd.R_drewN | apply Kd.R_drew)); exact HO433.out) hb); have n6_ := Aside0.mk (Kd.V_lower (Kd.V_mono (ok' := fun k_ => some k_ ≠ (.slice Ao47 y431.length co47 : Value).ownBlock) ho0 (fun k_ hk_ => (Kd.fresh' (Kd.R_lt (by (with_reducible repeat (first | apply Kd.R_alloc | apply Kd.R_drewN | apply Kd.R_drew)); exact HO433.out)) k_ hk_))) (below_size (by repeat (first | (with_reducible first | exact HB.out | apply below_alloc | apply pw_below_drewN | apply below_drew1) | exact HB.out)))); have n7_ := Aside0.mk (below_step (by repeat (first | (with_reducible first | exact HB.out | apply below_alloc | apply pw_below_drewN | apply below_drew1) | exact HB.out)) hb); clear HO414; clear HO418; clear HO422; clear HO425; clear HO429; clear HO433; clear HB; have HO414 := n0_; have HO418 := n1_; have HO422 := n2_; have HO425 := n3_; have HO429 := n4_; have HO433 := n5_; have HO436 := n6_; have HB := n7_; clear n0_ n1_ n2_ n3_ n4_ n5_ n6_ n7_; (try clear hb); (try clear hb2); (try clear hk); (try clear hi); (try clear ho0)) | ((with_reducible refine gate_callee (f := 18) rfl ?_); refine goesL_ (some 76) rfl rfl Try.func18 (by kernel_rfl) rfl #[.slice A0 (l0.take ((ji7) : Int).toNat).length c0] rfl (by (try simp only [List.map_toArray, List.map_cons, List.map_nil]); first | done | (rw [show (l0.take ((ji7) : Int).toNat).length = (ji7).toNat from (by rw [List.length_take]; have h_ : ((ji7) : Int) ≤ (l0.length : Int) := (by first | exact of_decide_eq_true (by first | (with_reducible assumption) | assumption) | (rw [← hji7]; unfold mn; split <;> omega)); omega)] <;> rfl) | (simp only [hji7]; rfl) | rfl | (simp only [List.length_drop, List.length_take]; rfl)) ?_; (with_reducible refine (nat_Trim.calls kj17 _ _ (l0.take ((ji7) : Int).toNat) t437 _ ?side1 ?side2 A27.out).mono ?_); (case side1 => repeat (first | exact (Kd.C_below HR410.out HB.out) | (with_reducible refine Kd.C_alloc ?_ _) | (with_reducible refine Kd.C_drewN ?_ _) | (with_reducible refine Kd.C_drew ?_))); (case side2 => exact HC410.out); rintro e w49 ⟨v438, rfl, ho0, hb⟩; refine ⟨_, rfl, ?_⟩; have n0_ := Aside0.mk (Kd.V_elder' (by (with_reducible repeat (first | apply Kd.V_alloc | apply Kd.V_drewN | apply Kd.V_drew)); exact HO414.out) (Kd.R_base ho0) hb); have n1_ := Aside0.mk (Kd.V_elder' (by (with_reducible repeat (first | apply Kd.V_alloc | apply Kd.V_drewN | apply Kd.V_drew)); exact HO418.out) (Kd.R_base ho0) hb); have n2_ := Aside0.mk (Kd.V_elder' (by (with_reducible repeat (first | apply Kd.V_alloc | apply Kd.V_drewN | apply Kd.V_drew)); exact HO422.out) (Kd.R_base ho0) hb); have n3_ := Aside0.mk (Kd.V_elder' (by (with_reducible repeat (first | apply Kd.V_alloc | apply Kd.V_drewN | apply Kd.V_drew)); exact HO425.out) (Kd.R_base ho0) hb); have n4_ := Aside0.mk (Kd.V_elder' (by (with_reducible repeat (first | apply Kd.V_alloc | apply Kd.V_drewN | apply Kd.V_drew)); exact HO429.out) (Kd.R_base ho0) hb); have n5_ := Aside0.mk (Kd.R_elder' (by (with_reducible repeat (first | apply Kd.R_alloc | apply Kd.R_drewN | apply Kd.R_drew)); exact HO433.out) (Kd.R_base ho0) hb); have n6_ := Aside0.mk (Kd.V_elder' (by (with_reducible repeat (first | apply Kd.V_alloc | apply Kd.V_drewN | apply Kd.V_drew)); exact HO436.out) (Kd.R_base ho0) hb); have n7_ := Aside0.mk (Kd.R_lower (Kd.R_new' ho0 (Kd.R_lt (by (with_reducible repeat (first | apply Kd.R_alloc | apply Kd.R_drewN | apply Kd.R_drew)); exact HO433.out))) (below_size (by repeat (first | (with_reducible first | exact HB.out | apply below_alloc | apply pw_below_drewN | apply below_drew1) | exact HB.out)))); have n8_ := Aside0.mk (below_step (by repeat (first | (with_reducible first | exact HB.out | apply below_alloc | apply pw_below_drewN | apply below_drew1) | exact HB.out)) hb); clear HO414; clear HO418; clear HO422; clear HO425; clear HO429; clear HO433; clear HO436; clear HB; have HO414 := n0_; have HO418 := n1_; have HO422 := n2_; have HO425 := n3_; have HO429 := n4_; have HO433 := n5_; have HO436 := n6_; have HO439 := n7_; have HB := n8_; clear n0_ n1_ n2_ n3_ n4_ n5_ n6_ n7_ n8_; (try clear hb); (try clear hb2); (try clear hk); (try clear hi); (try clear ho0); obtain ⟨Ao50, co50, eo50⟩ := Kd.V_slice HO436.out; subst eo50; obtain ⟨Ao51, co51, eo51⟩ := Kd.R_slice HO439.out; subst eo51) | ((with_reducible refine gate_callee (f := 10) rfl ?_); refine goesL_ (some 77) rfl rfl Try.func10 (by kernel_rfl) rfl #[.slice Ao50 t434.length co50, .slice Ao51 t437.length co51] rfl (by (try simp only [List.map_toArray, List.map_cons, List.map_nil]); first | done | rfl | (simp only [List.length_drop, List.length_take]; rfl)) ?_; (with_reducible refine (astrolabelaw02_digits.calls kj17 _ _ t434 _ _ t437 true _ ?side1 ?side2 ?side3 ?side4 A28.out).mono ?_); (case side1 => repeat (first | exact (Kd.V_reads' HO436.out).2.2 | (with_reducible refine Kd.C_alloc ?_ _) | (with_reducible refine Kd.C_drewN ?_ _) | (with_reducible refine Kd.C_drew ?_))); (case side2 => exact (Kd.V_reads' HO436.out).2.1); (case side3 => repeat (first | exact (Kd.R_reads' HO439.out).2.2 | (with_reducible refine Kd.C_alloc ?_ _) | (with_reducible refine Kd.C_drewN ?_ _) | (with_reducible refine Kd.C_drew ?_))); (case side4 => exact (Kd.R_reads' HO439.out).2.1); rintro e w' ⟨rfl, ⟨nd, rfl⟩⟩; refine ⟨_, rfl, ?_⟩) | (go_at_call 11; refine calls_of_args (args' := #[.slice A0 (l0.take ((ji7) : Int).toNat).length c0, .slice none 0 0]) (by first | (rw [show (l0.take ((ji7) : Int).toNat).length = (ji7).toNat from (by rw [List.length_take]; have h_ : ((ji7) : Int) ≤ (l0.length : Int) := (by first | exact of_decide_eq_true (by first | (with_reducible assumption) | assumption) | (rw [← hji7]; unfold mn; split <;> omega)); omega)] <;> rfl) | rfl) ?_; (refine (kara_Mul.calls kj17 _ _ (l0.take ((ji7) : Int).toNat) _ _ ([] : List Int) t441 _ ?side1 ?side2 ?side3 ?side4 A34.out).mono ?_); (case side1 => repeat (first | exact (Kd.C_below HR410.out (by repeat (first | (with_reducible first | exact HB.out | apply below_alloc | apply pw_below_drewN | apply below_drew1) | exact HB.out))) | (with_reducible refine Kd.C_alloc ?_ _) | (with_reducible refine Kd.C_drewN ?_ _) | (with_reducible refine Kd.C_drew ?_))); (case side2 => exact HC410.out); (case side3 => exact Kd.C_nil _ _); (case side4 => exact Nat.le_refl _); rintro e w52 ⟨v442, rfl, ho0, hb⟩; have n0_ := Aside0.mk (Kd.V_below (by (with_reducible repeat (first | apply Kd.V_alloc | apply Kd.V_drewN | apply Kd.V_drew)); exact HO414.out) hb); have n1_ := Aside0.mk (Kd.V_below (by (with_reducible repeat (first | apply Kd.V_alloc | apply Kd.V_drewN | apply Kd.V_drew)); exact HO418.out) hb); have n2_ := Aside0.mk (Kd.V_below (by (with_reducible repeat (first | apply Kd.V_alloc | apply Kd.V_drewN | apply Kd.V_drew)); exact HO422.out) hb); have n3_ := Aside0.mk (Kd.V_below (by (with_reducible repeat (first | apply Kd.V_alloc | apply Kd.V_drewN | apply Kd.V_drew)); exact HO425.out) hb); have n4_ := Aside0.mk (Kd.V_below (by (with_reducible repeat (first | apply Kd.V_alloc | apply Kd.V_drewN | apply Kd.V_drew)); exact HO429.out) hb); have n5_ := Aside0.mk (Kd.R_below (by (with_reducible repeat (first | apply Kd.R_alloc | apply Kd.R_drewN | apply Kd.R_drew)); exact HO433.out) hb); have n6_ := Aside0.mk (Kd.V_below (by (with_reducible repeat (first | apply Kd.V_alloc | apply Kd.V_drewN | apply Kd.V_drew)); exact HO436.out) hb); have n7_ := Aside0.mk (Kd.R_below (by (with_reducible repeat (first | apply Kd.R_alloc | apply Kd.R_drewN | apply Kd.R_drew)); exact HO439.out) hb); have n8_ := Aside0.mk (Kd.V_lower (Kd.V_mono (ok' := fun k_ => some k_ ≠ (.slice Ao47 y431.length co47 : Value).ownBlock ∧ some k_ ≠ (.slice Ao51 t437.length co51 : Value).ownBlock) ho0 (fun k_ hk_ => ⟨(Kd.fresh' (Kd.R_lt (by (with_reducible repeat (first | apply Kd.R_alloc | apply Kd.R_drewN | apply Kd.R_drew)); exact HO433.out)) k_ hk_), (Kd.fresh' (Kd.R_lt (by (with_reducible repeat (first | apply Kd.R_alloc | apply Kd.R_drewN | apply Kd.R_drew)); exact HO439.out)) k_ hk_)⟩)) (below_size (by repeat (first | (with_reducible first | exact HB.out | apply below_alloc | apply pw_below_drewN | apply below_drew1) | exact HB.out)))); have n9_ := Aside0.mk (below_step (by repeat (first | (with_reducible first | exact HB.out | apply below_alloc | apply pw_below_drewN | apply below_drew1) | exact HB.out)) hb); clear HO414; clear HO418; clear HO422; clear HO425; clear HO429; clear HO433; clear HO436; clear HO439; clear HB; have HO414 := n0_; have HO418 := n1_; have HO422 := n2_; have HO425 := n3_; have HO429 := n4_; have HO433 := n5_; have HO436 := n6_; have HO439 := n7_; have HO443 := n8_; have HB := n9_; clear n0_ n1_ n2_ n3_ n4_ n5_ n6_ n7_ n8_ n9_; (try clear hb); (try clear hb2); (try clear hk); (try clear hi); (try clear ho0); obtain ⟨Ao53, co53, eo53⟩ := Kd.V_slice HO443.out; subst eo53))
                              go_ret
                              exact ⟨by first | rfl | (simp [errW_none, errW_some] <;> rfl) | (simp only [← hji7, ← hji10]; first | rfl | (simp [errW_none, errW_some] <;> rfl)) | (simp [*, errW_none, errW_some] <;> rfl), by repeat (first | (with_reducible first | exact HB.out | apply below_alloc | apply pw_below_drewN | apply below_drew1) | exact HB.out)⟩
                            · replace c33 := Bool.eq_false_iff.mpr c33
                              subst c33
                              have H1 : (none) = some r := by rw [if_neg (show ¬ (false = true) by decide)] at H; exact H
                              clear H
                              have H := H1
                              clear H1
                              exact absurd H (by simp)
                          · replace c32 := Bool.eq_false_iff.mpr c32
                            subst c32
                            have H1 : (none) = some r := by rw [if_neg (show ¬ (false = true) by decide)] at H; exact H
                            clear H
                            have H := H1
                            clear H1
                            exact absurd H (by simp)
                        · replace c31 := Bool.eq_false_iff.mpr c31
                          subst c31
                          have H1 : (none) = some r := by rw [if_neg (show ¬ (false = true) by decide)] at H; exact H
                          clear H
                          have H := H1
                          clear H1
                          exact absurd H (by simp)
                      · replace c30 := Bool.eq_false_iff.mpr c30
                        subst c30
                        have H1 : (none) = some r := by rw [if_neg (show ¬ (false = true) by decide)] at H; exact H
                        clear H
                        have H := H1
                        clear H1
                        exact absurd H (by simp)
                    · replace c29 := Bool.eq_false_iff.mpr c29
                      subst c29
                      have H1 : (none) = some r := by rw [if_neg (show ¬ (false = true) by decide)] at H; exact H
                      clear H
                      have H := H1
                      clear H1
                      exact absurd H (by simp)
          · rw [if_neg c12] at H
            exact absurd H (by simp)
        · rw [if_neg c11] at H
          exact absurd H (by simp)
      · rw [if_neg c9] at H
        exact absurd H (by simp)
    · rw [if_neg c8] at H
      exact absurd H (by simp)
  · replace c6 := Bool.eq_false_iff.mpr c6
    subst c6
    have H1 : (none) = some r := by rw [if_neg (show ¬ (false = true) by decide)] at H; exact H
    clear H
    have H := H1
    clear H1
    exact absurd H (by simp)

/-- THE ONE PURE STATEMENT of astrolabelaw02_KaraMoves: yours. -/
def astrolabelaw02_KaraMoves.Pure : Prop := ∀ (l0 : List Int) (l1 : List Int) (a2 : Int) (a3 : Int), l0.length ≤ maxLen → l0.length * 4 ≤ 140737488351232 → (∀ x ∈ l0, (Lit.int .u32 x).wf = true) → l1.length ≤ maxLen → l1.length * 4 ≤ 140737488351232 → (∀ x ∈ l1, (Lit.int .u32 x).wf = true) → (Lit.int .i64 a2).wf = true → (Lit.int .i64 a3).wf = true → ∃ k, astrolabelaw02_KaraMoves.f k l0 l1 a2 a3 = some true
theorem astrolabelaw02_KaraMoves.walk (P : astrolabelaw02_KaraMoves.Pure) (a0 : Option Addr) (len0 cap0 : Nat) (z0 : List Int) (a1 : Option Addr) (len1 cap1 : Nat) (z1 : List Int) (a2 : Int) (a3 : Int) (w : World) (w0 : (a0 = none ∧ len0 = 0 ∧ cap0 = 0 ∧ z0 = []) ∨ ∃ x, a0 = some x ∧ len0 ≤ cap0 ∧ cap0 ≤ maxLen ∧ z0.length = cap0 ∧ (∀ i, i < z0.length → w.cell? (x.add i) = some (.int .u32 (z0.getD i 0))) ∧ ∀ n ∈ z0, (Lit.int .u32 n).wf = true) (y0 : len0 * 4 ≤ 140737488351232) (w1 : (a1 = none ∧ len1 = 0 ∧ cap1 = 0 ∧ z1 = []) ∨ ∃ x, a1 = some x ∧ len1 ≤ cap1 ∧ cap1 ≤ maxLen ∧ z1.length = cap1 ∧ (∀ i, i < z1.length → w.cell? (x.add i) = some (.int .u32 (z1.getD i 0))) ∧ ∀ n ∈ z1, (Lit.int .u32 n).wf = true) (y1 : len1 * 4 ≤ 140737488351232) (w2 : (Lit.int .i64 a2).wf = true) (w3 : (Lit.int .i64 a3).wf = true) :
    Calls Try.prog 7 #[.slice a0 len0 cap0, .slice a1 len1 cap1, .int .i64 a2, .int .i64 a3] w fun e w' => e = .returned (.bool true) ∧ Below w.heap.size w w' := by
  obtain ⟨l0, rfl, hr0, hm0, hw0, hc0⟩ := ReadsInt.ofRowC w0
  obtain ⟨l1, rfl, hr1, hm1, hw1, hc1⟩ := ReadsInt.ofRowC w1
  obtain ⟨k, h⟩ := P l0 l1 a2 a3 hm0 y0 hw0 hm1 y1 hw1 w2 w3
  refine (astrolabelaw02_KaraMoves.calls k _ _ l0 _ _ l1 a2 a3 true w (Kd.C_of_reads (d := (0 : Int)) (h1 := fun _ => rfl) hr0) hc0 (Kd.C_of_reads (d := (0 : Int)) (h1 := fun _ => rfl) hr1) hc1 h).mono ?_
  rintro e w' ⟨rfl, hd⟩
  exact ⟨rfl, hd⟩

end Go.Proofs.Ytpodpfppbkjbcaa.P
