/- What the Go functions of these names come to, as plain Lean functions, and the walks that show it. Written for this claim by a turned copy of the print program; Lean checks it. -/
import Derived.Test.YtohkjfdcmiiehaaP0
import Derived.Test.YtohkjfdcmiiehaaP11
namespace Go.Proofs.Ytohkjfdcmiiehaa.P
open Go.RowKit Go.Proofs.YtohkjfdcmiiehaaW.PrintWords Go.Proofs.YtohkjfdcmiiehaaW.PrintLast Go.Proofs.YtohkjfdcmiiehaaW.PrintMore
attribute [local go_sem] max2_int min2_int max_two min_two max_three min_three max_four min_four   -- for this text's walks alone
set_option linter.unusedVariables false
set_option linter.unusedSimpArgs false

/-! ### astrolabelaw03_digits: function 14 -/
def astrolabelaw03_digits.l0 : Nat → List Int → List Int → Int → Option (Bool)
  | 0, _, _, _ => none
  | k + 1, x0, x1, x5 => if x5 < (x0.length : Int) then (if 0 ≤ x5 then (if x5 < (x1.length : Int) then (if (rd x0 x5) = (rd x1 x5) then (astrolabelaw03_digits.l0 k x0 x1 (wrap64 (x5 + 1))) else (some false)) else (none)) else (none)) else (some true)
def astrolabelaw03_digits.f (k : Nat) (l0 : List Int) (l1 : List Int) : Option (Bool) := if (l0.length : Int) = (l1.length : Int) then (astrolabelaw03_digits.l0 k l0 l1 0) else (some false)
theorem astrolabelaw03_digits.mono_l : ∀ k, (∀ y0 y1 y2, LeO (astrolabelaw03_digits.l0 k y0 y1 y2) (astrolabelaw03_digits.l0 (k + 1) y0 y1 y2))
  | 0 => fun _ _ _ r h => by simp [astrolabelaw03_digits.l0] at h
  | k + 1 => by
    have ih0 := astrolabelaw03_digits.mono_l k
    · intro y0 y1 y2
      unfold astrolabelaw03_digits.l0
      repeat' first
      | (with_reducible exact ih0 _ _ _)
      | (with_reducible exact LeO.refl _)
      | (with_reducible exact LeO.none _)
      | (with_reducible refine LeO.ite ?_ ?_)
      | (with_reducible refine LeO.bind ?_ (fun _ => ?_))
      | exact ih0 _ _ _
      | exact LeO.none _
      | refine LeO.ite ?_ ?_
      | refine LeO.bind ?_ (fun _ => ?_)
theorem astrolabelaw03_digits.mono : ∀ a0 a1 k, LeO (astrolabelaw03_digits.f k a0 a1) (astrolabelaw03_digits.f (k + 1) a0 a1) := by
  intro a0 a1 k
  have ih0 := astrolabelaw03_digits.mono_l k
  unfold astrolabelaw03_digits.f
  repeat' first
      | (with_reducible exact ih0 _ _ _)
      | (with_reducible exact LeO.refl _)
      | (with_reducible exact LeO.none _)
      | (with_reducible refine LeO.ite ?_ ?_)
      | (with_reducible refine LeO.bind ?_ (fun _ => ?_))
      | exact ih0 _ _ _
      | exact LeO.none _
      | refine LeO.ite ?_ ?_
      | refine LeO.bind ?_ (fun _ => ?_)
set_option maxHeartbeats 8000000 in
set_option maxRecDepth 100000 in
theorem astrolabelaw03_digits.calls (k : Nat) (A0 : Option Addr) (c0 : Nat) (l0 : List Int) (A1 : Option Addr) (c1 : Nat) (l1 : List Int) (r : Bool) (w : World) (hr0 : Kd.C (Kd.int .u32) w A0 l0.length l0) (hc0 : l0.length ≤ c0) (hr1 : Kd.C (Kd.int .u32) w A1 l1.length l1) (hc1 : l1.length ≤ c1) (h : astrolabelaw03_digits.f k l0 l1 = some r) :
    Calls Try.prog 14 #[.slice A0 l0.length c0, .slice A1 l1.length c1] w fun e w' => e = .returned (.bool r) ∧ Drawn0 w w' := by
  have HR0 := A0_ hr0
  have HC0 := A0_ hc0
  clear hr0 hc0
  have HR1 := A0_ hr1
  have HC1 := A0_ hc1
  clear hr1 hc1
  have H : (if (l0.length : Int) = (l1.length : Int) then (astrolabelaw03_digits.l0 k l0 l1 0) else (some false)) = some r := h
  clear h
  by_cases c3 : (l0.length : Int) = (l1.length : Int)
  · rw [if_pos c3] at H
    have c3b0 : ((l0.length : Int) == (l1.length : Int)) = true := beq_iff_eq.mpr c3
    have c3b1 : ((l0.length : Int) != (l1.length : Int)) = false := bne_eq_false_iff_eq.mpr c3
    have c3b2 : (l0.length == l1.length) = true := by first | simpa using c3 | (simp at c3 ⊢; omega)
    clear c3
    have H' := A0_ H
    clear H
    go_enter Try.func14, Try.ntmps14
    go_wp2
    repeat (go_quiet (fail); try go_wp2)
    go_loopg [5] k (fun kq v5 w' => ∃ (x5_1 : Int), v5 = .int .i64 x5_1 ∧ Aside0 (astrolabelaw03_digits.l0 kq l0 l1 x5_1 = some r) ∧ Aside0 (kq ≤ k) ∧ Drawn0 w w')
    case atStart => exact ⟨(0), rs_, H', ⟨Nat.le_refl _⟩, by repeat (first | exact Drawn0.refl _ | apply Drawn0.step)⟩
    case round =>
      clear H'
      (try clear c1); (try clear p2); (try clear c3); (try clear c3b0); (try clear c3b1); (try clear c3b2)
      obtain ⟨x5_1, rfl, HA, HK1, ⟨m1, rfl⟩⟩ := hrel
      cases gk with
      | zero => exact absurd HA.out (by simp [astrolabelaw03_digits.l0])
      | succ k1 =>
        have H := HA.out
        clear HA
        simp only [astrolabelaw03_digits.l0] at H
        by_cases c4 : x5_1 < (l0.length : Int)
        · rw [if_pos c4] at H
          have c4b0 : decide (x5_1 < (l0.length : Int)) = true := decide_eq_true c4
          clear c4
          by_cases c5 : 0 ≤ x5_1
          case neg => rw [if_neg c5] at H; exact absurd H (by simp)
          rw [if_pos c5] at H
          have c5b0 : decide (0 ≤ x5_1) = true := decide_eq_true c5
          clear c5
          by_cases c6 : x5_1 < (l1.length : Int)
          case neg => rw [if_neg c6] at H; exact absurd H (by simp)
          rw [if_pos c6] at H
          have c6b0 : decide (x5_1 < (l1.length : Int)) = true := decide_eq_true c6
          clear c6
          by_cases c7 : (rd l0 x5_1) = (rd l1 x5_1)
          · rw [if_pos c7] at H
            have c7b0 : ((rd l0 x5_1) == (rd l1 x5_1)) = true := beq_iff_eq.mpr c7
            have c7b1 : ((rd l0 x5_1) != (rd l1 x5_1)) = false := bne_eq_false_iff_eq.mpr c7
            clear c7
            have H' := A0_ H
            clear H
            have p253 : 0 ≤ (x5_1 : Int) := od_
            have q253 : x5_1 < (l0.length : Int) := od_
            obtain ⟨ad253, e253, hx253_0⟩ := Kd.at_int HR0.out x5_1 p253 q253
            cases e253
            replace p253 := eq_true p253
            replace q253 := eq_true q253
            have p254 : 0 ≤ (x5_1 : Int) := od_
            have q254 : x5_1 < (l1.length : Int) := od_
            obtain ⟨ad254, e254, hx254_0⟩ := Kd.at_int HR1.out x5_1 p254 q254
            cases e254
            replace p254 := eq_true p254
            replace q254 := eq_true q254
            go_wp2
            repeat (go_quiet (fail); try go_wp2)
            go_roundg k1
            case measure => have := HK1.out; omega
            case rel => exact ⟨(wrap64 (x5_1 + 1)), rs_, H', ⟨by have := HK1.out; omega⟩, by repeat (first | exact Drawn0.refl _ | apply Drawn0.step)⟩
          · rw [if_neg c7] at H
            have c7b0 : ((rd l0 x5_1) == (rd l1 x5_1)) = false := beq_eq_false_iff_ne.mpr c7
            have c7b1 : ((rd l0 x5_1) != (rd l1 x5_1)) = true := bne_iff_ne.mpr c7
            obtain rfl := Option.some.inj H
            have p253 : 0 ≤ (x5_1 : Int) := od_
            have q253 : x5_1 < (l0.length : Int) := od_
            obtain ⟨ad253, e253, hx253_0⟩ := Kd.at_int HR0.out x5_1 p253 q253
            cases e253
            replace p253 := eq_true p253
            replace q253 := eq_true q253
            have p254 : 0 ≤ (x5_1 : Int) := od_
            have q254 : x5_1 < (l1.length : Int) := od_
            obtain ⟨ad254, e254, hx254_0⟩ := Kd.at_int HR1.out x5_1 p254 q254
            cases e254
            replace p254 := eq_true p254
            replace q254 := eq_true q254
            go_wp2
            repeat (go_quiet (fail); try go_wp2)
            go_ret
            exact ⟨by first | rfl | (simp; done) | (simp [*]; done), by repeat (first | exact Drawn0.refl _ | apply Drawn0.step)⟩
        · rw [if_neg c4] at H
          have c4b0 : decide (x5_1 < (l0.length : Int)) = false := decide_eq_false c4
          clear c4
          obtain rfl := Option.some.inj H
          go_wp2
          repeat (go_quiet (fail); try go_wp2)
          go_ret
          exact ⟨by first | rfl | (simp; done) | (simp [*]; done), by repeat (first | exact Drawn0.refl _ | apply Drawn0.step)⟩
  · rw [if_neg c3] at H
    have c3b0 : ((l0.length : Int) == (l1.length : Int)) = false := beq_eq_false_iff_ne.mpr c3
    have c3b1 : ((l0.length : Int) != (l1.length : Int)) = true := bne_iff_ne.mpr c3
    have c3b2 : (l0.length == l1.length) = false := by first | simpa using c3 | (simp at c3 ⊢; omega)
    obtain rfl := Option.some.inj H
    go_enter Try.func14, Try.ntmps14
    go_wp2
    repeat (go_quiet (fail); try go_wp2)
    go_ret
    exact ⟨by first | rfl | (simp; done) | (simp [*]; done), by repeat (first | exact Drawn0.refl _ | apply Drawn0.step)⟩

/-! ### astrolabelaw03_examples: function 11 -/
def astrolabelaw03_examples.f (k : Nat)  : Option (Bool) := (quo_DivMod.f k (([0, 0, 1] : List Int)) (([10] : List Int))).bind fun bt365 => ((astrolabelaw03_digits.f k bt365.1 (([2576980377, 429496729] : List Int))).bind fun t375 => ((astrolabelaw03_digits.f k bt365.2.1 (([6] : List Int))).bind fun t379 => ((quo_Sqrt.f k (([99] : List Int))).bind fun bt383 => ((astrolabelaw03_digits.f k bt383.1 (([9] : List Int))).bind fun t392 => ((astrolabelaw03_digits.f k bt383.2 (([18] : List Int))).bind fun t396 => ((quo_Gcd.f k (([12] : List Int)) (([18] : List Int))).bind fun t403 => ((astrolabelaw03_digits.f k t403 (([6] : List Int))).bind fun t409 => (if t375 = true then (if t379 = true then (if bt365.2.2 = true then (if t392 = true then (if t396 = true then (some t409) else (none)) else (none)) else (none)) else (none)) else (none)))))))))
theorem astrolabelaw03_examples.mono : ∀ k, LeO (astrolabelaw03_examples.f k ) (astrolabelaw03_examples.f (k + 1) ) := by
  intro  k
  unfold astrolabelaw03_examples.f
  repeat' first
      | (with_reducible exact astrolabelaw03_digits.mono _ _ _)
      | (with_reducible exact quo_DivMod.mono _ _ _)
      | (with_reducible exact quo_Gcd.mono _ _ _)
      | (with_reducible exact quo_Sqrt.mono _ _)
      | (with_reducible exact LeO.refl _)
      | (with_reducible exact LeO.none _)
      | (with_reducible refine LeO.ite ?_ ?_)
      | (with_reducible refine LeO.bind ?_ (fun _ => ?_))
      | exact astrolabelaw03_digits.mono _ _ _
      | exact quo_DivMod.mono _ _ _
      | exact quo_Gcd.mono _ _ _
      | exact quo_Sqrt.mono _ _
      | exact LeO.none _
      | refine LeO.ite ?_ ?_
      | refine LeO.bind ?_ (fun _ => ?_)
set_option maxHeartbeats 8000000 in
set_option maxRecDepth 100000 in
theorem astrolabelaw03_examples.calls (k : Nat)  (r : Bool) (w : World) (h : astrolabelaw03_examples.f k  = some r) :
    Calls Try.prog 11 #[] w fun e w' => e = .returned (.bool r) ∧ Below w.heap.size w w' := by
  have HB := A0_ (Below.refl w.heap.size w)
  have H : ((quo_DivMod.f k (([0, 0, 1] : List Int)) (([10] : List Int))).bind fun bt365 => ((astrolabelaw03_digits.f k bt365.1 (([2576980377, 429496729] : List Int))).bind fun t375 => ((astrolabelaw03_digits.f k bt365.2.1 (([6] : List Int))).bind fun t379 => ((quo_Sqrt.f k (([99] : List Int))).bind fun bt383 => ((astrolabelaw03_digits.f k bt383.1 (([9] : List Int))).bind fun t392 => ((astrolabelaw03_digits.f k bt383.2 (([18] : List Int))).bind fun t396 => ((quo_Gcd.f k (([12] : List Int)) (([18] : List Int))).bind fun t403 => ((astrolabelaw03_digits.f k t403 (([6] : List Int))).bind fun t409 => (if t375 = true then (if t379 = true then (if bt365.2.2 = true then (if t392 = true then (if t396 = true then (some t409) else (none)) else (none)) else (none)) else (none)) else (none)))))))))) = some r := h
  clear h
  obtain ⟨y359, hy359⟩ : ∃ y_ : List Int, y_ = (([0, 0, 1] : List Int)) := ⟨_, rfl⟩
  replace H : ((quo_DivMod.f k y359 (([10] : List Int))).bind fun bt365 => ((astrolabelaw03_digits.f k bt365.1 (([2576980377, 429496729] : List Int))).bind fun t375 => ((astrolabelaw03_digits.f k bt365.2.1 (([6] : List Int))).bind fun t379 => ((quo_Sqrt.f k (([99] : List Int))).bind fun bt383 => ((astrolabelaw03_digits.f k bt383.1 (([9] : List Int))).bind fun t392 => ((astrolabelaw03_digits.f k bt383.2 (([18] : List Int))).bind fun t396 => ((quo_Gcd.f k (([12] : List Int)) (([18] : List Int))).bind fun t403 => ((astrolabelaw03_digits.f k t403 (([6] : List Int))).bind fun t409 => (if t375 = true then (if t379 = true then (if bt365.2.2 = true then (if t392 = true then (if t396 = true then (some t409) else (none)) else (none)) else (none)) else (none)) else (none)))))))))) = some r := by first | (rw [hy359]; with_reducible exact H) | (rw [hy359]; exact H) | exact H
  have Ny359 := A0_ hy359
  clear hy359
  obtain ⟨y362, hy362⟩ : ∃ y_ : List Int, y_ = (([10] : List Int)) := ⟨_, rfl⟩
  replace H : ((quo_DivMod.f k y359 y362).bind fun bt365 => ((astrolabelaw03_digits.f k bt365.1 (([2576980377, 429496729] : List Int))).bind fun t375 => ((astrolabelaw03_digits.f k bt365.2.1 (([6] : List Int))).bind fun t379 => ((quo_Sqrt.f k (([99] : List Int))).bind fun bt383 => ((astrolabelaw03_digits.f k bt383.1 (([9] : List Int))).bind fun t392 => ((astrolabelaw03_digits.f k bt383.2 (([18] : List Int))).bind fun t396 => ((quo_Gcd.f k (([12] : List Int)) (([18] : List Int))).bind fun t403 => ((astrolabelaw03_digits.f k t403 (([6] : List Int))).bind fun t409 => (if t375 = true then (if t379 = true then (if bt365.2.2 = true then (if t392 = true then (if t396 = true then (some t409) else (none)) else (none)) else (none)) else (none)) else (none)))))))))) = some r := by first | (rw [hy362]; with_reducible exact H) | (rw [hy362]; exact H) | exact H
  have Ny362 := A0_ hy362
  clear hy362
  replace H := Option.bind_eq_some_iff.mp H
  obtain ⟨⟨t365, t368, t371⟩, A10, H⟩ := H
  (try dsimp only at H)
  have A1 := A0_ A10
  clear A10
  obtain ⟨y372, hy372⟩ : ∃ y_ : List Int, y_ = (([2576980377, 429496729] : List Int)) := ⟨_, rfl⟩
  replace H : ((astrolabelaw03_digits.f k t365 y372).bind fun t375 => ((astrolabelaw03_digits.f k t368 (([6] : List Int))).bind fun t379 => ((quo_Sqrt.f k (([99] : List Int))).bind fun bt383 => ((astrolabelaw03_digits.f k bt383.1 (([9] : List Int))).bind fun t392 => ((astrolabelaw03_digits.f k bt383.2 (([18] : List Int))).bind fun t396 => ((quo_Gcd.f k (([12] : List Int)) (([18] : List Int))).bind fun t403 => ((astrolabelaw03_digits.f k t403 (([6] : List Int))).bind fun t409 => (if t375 = true then (if t379 = true then (if t371 = true then (if t392 = true then (if t396 = true then (some t409) else (none)) else (none)) else (none)) else (none)) else (none))))))))) = some r := by first | (rw [hy372]; with_reducible exact H) | (rw [hy372]; exact H) | exact H
  have Ny372 := A0_ hy372
  clear hy372
  replace H := Option.bind_eq_some_iff.mp H
  obtain ⟨t375, A20, H⟩ := H
  (try dsimp only at H)
  have A2 := A0_ A20
  clear A20
  obtain ⟨y376, hy376⟩ : ∃ y_ : List Int, y_ = (([6] : List Int)) := ⟨_, rfl⟩
  replace H : ((astrolabelaw03_digits.f k t368 y376).bind fun t379 => ((quo_Sqrt.f k (([99] : List Int))).bind fun bt383 => ((astrolabelaw03_digits.f k bt383.1 (([9] : List Int))).bind fun t392 => ((astrolabelaw03_digits.f k bt383.2 (([18] : List Int))).bind fun t396 => ((quo_Gcd.f k (([12] : List Int)) (([18] : List Int))).bind fun t403 => ((astrolabelaw03_digits.f k t403 (([6] : List Int))).bind fun t409 => (if t375 = true then (if t379 = true then (if t371 = true then (if t392 = true then (if t396 = true then (some t409) else (none)) else (none)) else (none)) else (none)) else (none)))))))) = some r := by first | (rw [hy376]; with_reducible exact H) | (rw [hy376]; exact H) | exact H
  have Ny376 := A0_ hy376
  clear hy376
  replace H := Option.bind_eq_some_iff.mp H
  obtain ⟨t379, A30, H⟩ := H
  (try dsimp only at H)
  have A3 := A0_ A30
  clear A30
  obtain ⟨y380, hy380⟩ : ∃ y_ : List Int, y_ = (([99] : List Int)) := ⟨_, rfl⟩
  replace H : ((quo_Sqrt.f k y380).bind fun bt383 => ((astrolabelaw03_digits.f k bt383.1 (([9] : List Int))).bind fun t392 => ((astrolabelaw03_digits.f k bt383.2 (([18] : List Int))).bind fun t396 => ((quo_Gcd.f k (([12] : List Int)) (([18] : List Int))).bind fun t403 => ((astrolabelaw03_digits.f k t403 (([6] : List Int))).bind fun t409 => (if t375 = true then (if t379 = true then (if t371 = true then (if t392 = true then (if t396 = true then (some t409) else (none)) else (none)) else (none)) else (none)) else (none))))))) = some r := by first | (rw [hy380]; with_reducible exact H) | (rw [hy380]; exact H) | exact H
  have Ny380 := A0_ hy380
  clear hy380
  replace H := Option.bind_eq_some_iff.mp H
  obtain ⟨⟨t383, t386⟩, A40, H⟩ := H
  (try dsimp only at H)
  have A4 := A0_ A40
  clear A40
  obtain ⟨y389, hy389⟩ : ∃ y_ : List Int, y_ = (([9] : List Int)) := ⟨_, rfl⟩
  replace H : ((astrolabelaw03_digits.f k t383 y389).bind fun t392 => ((astrolabelaw03_digits.f k t386 (([18] : List Int))).bind fun t396 => ((quo_Gcd.f k (([12] : List Int)) (([18] : List Int))).bind fun t403 => ((astrolabelaw03_digits.f k t403 (([6] : List Int))).bind fun t409 => (if t375 = true then (if t379 = true then (if t371 = true then (if t392 = true then (if t396 = true then (some t409) else (none)) else (none)) else (none)) else (none)) else (none)))))) = some r := by first | (rw [hy389]; with_reducible exact H) | (rw [hy389]; exact H) | exact H
  have Ny389 := A0_ hy389
  clear hy389
  replace H := Option.bind_eq_some_iff.mp H
  obtain ⟨t392, A50, H⟩ := H
  (try dsimp only at H)
  have A5 := A0_ A50
  clear A50
  obtain ⟨y393, hy393⟩ : ∃ y_ : List Int, y_ = (([18] : List Int)) := ⟨_, rfl⟩
  replace H : ((astrolabelaw03_digits.f k t386 y393).bind fun t396 => ((quo_Gcd.f k (([12] : List Int)) (([18] : List Int))).bind fun t403 => ((astrolabelaw03_digits.f k t403 (([6] : List Int))).bind fun t409 => (if t375 = true then (if t379 = true then (if t371 = true then (if t392 = true then (if t396 = true then (some t409) else (none)) else (none)) else (none)) else (none)) else (none))))) = some r := by first | (rw [hy393]; with_reducible exact H) | (rw [hy393]; exact H) | exact H
  have Ny393 := A0_ hy393
  clear hy393
  replace H := Option.bind_eq_some_iff.mp H
  obtain ⟨t396, A60, H⟩ := H
  (try dsimp only at H)
  have A6 := A0_ A60
  clear A60
  obtain ⟨y397, hy397⟩ : ∃ y_ : List Int, y_ = (([12] : List Int)) := ⟨_, rfl⟩
  replace H : ((quo_Gcd.f k y397 (([18] : List Int))).bind fun t403 => ((astrolabelaw03_digits.f k t403 (([6] : List Int))).bind fun t409 => (if t375 = true then (if t379 = true then (if t371 = true then (if t392 = true then (if t396 = true then (some t409) else (none)) else (none)) else (none)) else (none)) else (none)))) = some r := by first | (rw [hy397]; with_reducible exact H) | (rw [hy397]; exact H) | exact H
  have Ny397 := A0_ hy397
  clear hy397
  obtain ⟨y400, hy400⟩ : ∃ y_ : List Int, y_ = (([18] : List Int)) := ⟨_, rfl⟩
  replace H : ((quo_Gcd.f k y397 y400).bind fun t403 => ((astrolabelaw03_digits.f k t403 (([6] : List Int))).bind fun t409 => (if t375 = true then (if t379 = true then (if t371 = true then (if t392 = true then (if t396 = true then (some t409) else (none)) else (none)) else (none)) else (none)) else (none)))) = some r := by first | (rw [hy400]; with_reducible exact H) | (rw [hy400]; exact H) | exact H
  have Ny400 := A0_ hy400
  clear hy400
  replace H := Option.bind_eq_some_iff.mp H
  obtain ⟨t403, A70, H⟩ := H
  (try dsimp only at H)
  have A7 := A0_ A70
  clear A70
  obtain ⟨y406, hy406⟩ : ∃ y_ : List Int, y_ = (([6] : List Int)) := ⟨_, rfl⟩
  replace H : ((astrolabelaw03_digits.f k t403 y406).bind fun t409 => (if t375 = true then (if t379 = true then (if t371 = true then (if t392 = true then (if t396 = true then (some t409) else (none)) else (none)) else (none)) else (none)) else (none))) = some r := by first | (rw [hy406]; with_reducible exact H) | (rw [hy406]; exact H) | exact H
  have Ny406 := A0_ hy406
  clear hy406
  replace H := Option.bind_eq_some_iff.mp H
  obtain ⟨t409, A80, H⟩ := H
  (try dsimp only at H)
  have A8 := A0_ A80
  clear A80
  by_cases c9 : t375 = true
  · subst c9
    have H1 : (if t379 = true then (if t371 = true then (if t392 = true then (if t396 = true then (some t409) else (none)) else (none)) else (none)) else (none)) = some r := by rw [if_pos rfl] at H; exact H
    clear H
    have H := H1
    clear H1
    by_cases c10 : t379 = true
    · subst c10
      have H1 : (if t371 = true then (if t392 = true then (if t396 = true then (some t409) else (none)) else (none)) else (none)) = some r := by rw [if_pos rfl] at H; exact H
      clear H
      have H := H1
      clear H1
      by_cases c11 : t371 = true
      · subst c11
        have H1 : (if t392 = true then (if t396 = true then (some t409) else (none)) else (none)) = some r := by rw [if_pos rfl] at H; exact H
        clear H
        have H := H1
        clear H1
        by_cases c12 : t392 = true
        · subst c12
          have H1 : (if t396 = true then (some t409) else (none)) = some r := by rw [if_pos rfl] at H; exact H
          clear H
          have H := H1
          clear H1
          by_cases c13 : t396 = true
          · subst c13
            have H1 : (some t409) = some r := by rw [if_pos rfl] at H; exact H
            clear H
            have H := H1
            clear H1
            obtain rfl := Option.some.inj H
            go_enter Try.func11, Try.ntmps11
            go_wp2_with (first | ((with_reducible refine gate_dst (N := 12) rfl ?_); refine Kd.R_lit (Kd.int .u32) _ 37 ?hg (N := 12) ?hd (xs := ([0, 0, 1] : List Int)) (inner := [.int .u32 0, .int .u32 0, .int .u32 1]) (ok := fun _ => True) (okp := fun _ => True) ?hr ?hp (fun _ hk => hk) trivial (Below.refl _ _) (Nat.le_refl _) (by simp) ?_; (case hd => rfl); (case hg => rfl); (case hr => first | (go_simp; done) | (go_simp; rfl)); (case hp => exact (Reps.one (show Kd.M (Kd.int .u32) _ _ _ 0 [.int .u32 0] from rfl) (Reps.one (show Kd.M (Kd.int .u32) _ _ _ 0 [.int .u32 0] from rfl) (Reps.one (show Kd.M (Kd.int .u32) _ _ _ 1 [.int .u32 1] from rfl) (Reps.none _ _))))); intro v360 w14 ho15 hb hg_ hnew_; clear hg_ hnew_; (first | rw [← Ny359.out] at ho15 | (simp only [Int.reduceToNat] at ho15; rw [← Ny359.out] at ho15)); have n0_ := A0_ (Kd.R_lower ho15 (below_size bl_)); have n1_ := A0_ (below_step bl_ hb); clear HB; have HO361 := n0_; have HB := n1_; clear n0_ n1_; clear hb ho15) | ((with_reducible refine gate_dst (N := 13) rfl ?_); refine Kd.R_lit (Kd.int .u32) _ 37 ?hg (N := 13) ?hd (xs := ([10] : List Int)) (inner := [.int .u32 10]) (ok := fun _ => True) (okp := fun _ => True) ?hr ?hp (fun _ hk => hk) trivial (Below.refl _ _) (Nat.le_refl _) (by simp) ?_; (case hd => rfl); (case hg => rfl); (case hr => first | (go_simp; done) | (go_simp; rfl)); (case hp => exact (Reps.one (show Kd.M (Kd.int .u32) _ _ _ 10 [.int .u32 10] from rfl) (Reps.none _ _))); intro v363 w16 ho17 hb hg_ hnew_; clear hg_ hnew_; (first | rw [← Ny362.out] at ho17 | (simp only [Int.reduceToNat] at ho17; rw [← Ny362.out] at ho17)); have n0_ := A0_ (Kd.R_elder' (mvR HO361.out) (Kd.R_base ho17) hb); have n1_ := A0_ (Kd.R_lower (Kd.R_new' ho17 (Kd.R_lt (mvR HO361.out))) (below_size bl_)); have n2_ := A0_ (below_step bl_ hb); clear HO361; clear HB; have HO361 := n0_; have HO364 := n1_; have HB := n2_; clear n0_ n1_ n2_; clear hb ho17; obtain ⟨Ao18, co18, eo18⟩ := Kd.R_slice HO361.out; subst eo18; obtain ⟨Ao19, co19, eo19⟩ := Kd.R_slice HO364.out; subst eo19) | ((with_reducible refine gate_callee (f := 12) rfl ?_); refine goesM_ (some 14) Try.func12 #[.slice Ao18 y359.length co18, .slice Ao19 y362.length co19] rfl ?_; (with_reducible refine (quo_DivMod.calls k _ _ y359 _ _ y362 t365 t368 true _ ?side1 ?side2 ?side3 ?side4 A1.out).mono ?_); (case side1 => exact mvC (Kd.R_reads' HO361.out).2.2); (case side2 => exact (Kd.R_reads' HO361.out).2.1); (case side3 => exact mvC (Kd.R_reads' HO364.out).2.2); (case side4 => exact (Kd.R_reads' HO364.out).2.1); rintro e w20 ⟨v366, v369, rfl, ho0, ho1, hb⟩; refine ⟨_, rfl, ?_⟩; have n0_ := A0_ (Kd.R_elder' (mvR HO361.out) (Kd.R_base ho0) hb); have n1_ := A0_ (Kd.R_elder' (mvR HO364.out) (Kd.R_base ho0) hb); have n2_ := A0_ (Kd.R_lower (Kd.R_new' (Kd.R_new' (Kd.R_mono (ok' := fun k_ => True) ho0 (fun _ hk_ => trivial)) (Kd.R_lt (mvR HO361.out))) (Kd.R_lt (mvR HO364.out))) (below_size bl_)); have n3_ := A0_ (Kd.V_lower (Kd.V_mono (ok' := fun k_ => some k_ ≠ (v366 : Value).ownBlock ∧ some k_ ≠ (.slice Ao18 y359.length co18 : Value).ownBlock ∧ some k_ ≠ (.slice Ao19 y362.length co19 : Value).ownBlock) ho1 (fun k_ hk_ => ⟨hk_.2, (Kd.fresh' (Kd.R_lt (mvR HO361.out)) k_ hk_.1), (Kd.fresh' (Kd.R_lt (mvR HO364.out)) k_ hk_.1)⟩)) (below_size bl_)); have n4_ := A0_ (below_step bl_ hb); clear HO361; clear HO364; clear HB; have HO361 := n0_; have HO364 := n1_; have HO367 := n2_; have HO370 := n3_; have HB := n4_; clear n0_ n1_ n2_ n3_ n4_; (try clear hb); (try clear hb2); (try clear hk); (try clear hi); (try clear ho0); (try clear ho1)) | ((with_reducible refine gate_dst (N := 19) rfl ?_); refine Kd.R_lit (Kd.int .u32) _ 37 ?hg (N := 19) ?hd (xs := ([2576980377, 429496729] : List Int)) (inner := [.int .u32 2576980377, .int .u32 429496729]) (ok := fun _ => True) (okp := fun _ => True) ?hr ?hp (fun _ hk => hk) trivial (Below.refl _ _) (Nat.le_refl _) (by simp) ?_; (case hd => rfl); (case hg => rfl); (case hr => first | (go_simp; done) | (go_simp; rfl)); (case hp => exact (Reps.one (show Kd.M (Kd.int .u32) _ _ _ 2576980377 [.int .u32 2576980377] from rfl) (Reps.one (show Kd.M (Kd.int .u32) _ _ _ 429496729 [.int .u32 429496729] from rfl) (Reps.none _ _)))); intro v373 w21 ho22 hb hg_ hnew_; clear hg_ hnew_; (first | rw [← Ny372.out] at ho22 | (simp only [Int.reduceToNat] at ho22; rw [← Ny372.out] at ho22)); have n0_ := A0_ (Kd.R_elder' (mvR HO361.out) (Kd.R_base ho22) hb); have n1_ := A0_ (Kd.R_elder' (mvR HO364.out) (Kd.R_base ho22) hb); have n2_ := A0_ (Kd.R_elder' (mvR HO367.out) (Kd.R_base ho22) hb); have n3_ := A0_ (Kd.V_elder' (mvV HO370.out) (Kd.R_base ho22) hb); have n4_ := A0_ (Kd.R_lower (Kd.R_new' (Kd.R_new' (Kd.R_new' ho22 (Kd.R_lt (mvR HO361.out))) (Kd.R_lt (mvR HO364.out))) (Kd.R_lt (mvR HO367.out))) (below_size bl_)); have n5_ := A0_ (below_step bl_ hb); clear HO361; clear HO364; clear HO367; clear HO370; clear HB; have HO361 := n0_; have HO364 := n1_; have HO367 := n2_; have HO370 := n3_; have HO374 := n4_; have HB := n5_; clear n0_ n1_ n2_ n3_ n4_ n5_; clear hb ho22; obtain ⟨Ao23, co23, eo23⟩ := Kd.R_slice HO367.out; subst eo23; obtain ⟨Ao24, co24, eo24⟩ := Kd.R_slice HO374.out; subst eo24) | ((with_reducible refine gate_callee (f := 14) rfl ?_); refine goesM_ (some 20) Try.func14 #[.slice Ao23 t365.length co23, .slice Ao24 y372.length co24] rfl ?_; (with_reducible refine (astrolabelaw03_digits.calls k _ _ t365 _ _ y372 true _ ?side1 ?side2 ?side3 ?side4 A2.out).mono ?_); (case side1 => exact mvC (Kd.R_reads' HO367.out).2.2); (case side2 => exact (Kd.R_reads' HO367.out).2.1); (case side3 => exact mvC (Kd.R_reads' HO374.out).2.2); (case side4 => exact (Kd.R_reads' HO374.out).2.1); rintro e w' ⟨rfl, ⟨nd, rfl⟩⟩; refine ⟨_, rfl, ?_⟩) | ((with_reducible refine gate_dst (N := 22) rfl ?_); refine Kd.R_lit (Kd.int .u32) _ 37 ?hg (N := 22) ?hd (xs := ([6] : List Int)) (inner := [.int .u32 6]) (ok := fun _ => True) (okp := fun _ => True) ?hr ?hp (fun _ hk => hk) trivial (Below.refl _ _) (Nat.le_refl _) (by simp) ?_; (case hd => rfl); (case hg => rfl); (case hr => first | (go_simp; done) | (go_simp; rfl)); (case hp => exact (Reps.one (show Kd.M (Kd.int .u32) _ _ _ 6 [.int .u32 6] from rfl) (Reps.none _ _))); intro v377 w25 ho26 hb hg_ hnew_; clear hg_ hnew_; (first | rw [← Ny376.out] at ho26 | (simp only [Int.reduceToNat] at ho26; rw [← Ny376.out] at ho26)); have n0_ := A0_ (Kd.R_elder' (mvR HO361.out) (Kd.R_base ho26) hb); have n1_ := A0_ (Kd.R_elder' (mvR HO364.out) (Kd.R_base ho26) hb); have n2_ := A0_ (Kd.R_elder' (mvR HO367.out) (Kd.R_base ho26) hb); have n3_ := A0_ (Kd.V_elder' (mvV HO370.out) (Kd.R_base ho26) hb); have n4_ := A0_ (Kd.R_elder' (mvR HO374.out) (Kd.R_base ho26) hb); have n5_ := A0_ (Kd.R_lower (Kd.R_new' (Kd.R_new' (Kd.R_new' (Kd.R_new' ho26 (Kd.R_lt (mvR HO361.out))) (Kd.R_lt (mvR HO364.out))) (Kd.R_lt (mvR HO367.out))) (Kd.R_lt (mvR HO374.out))) (below_size bl_)); have n6_ := A0_ (below_step bl_ hb); clear HO361; clear HO364; clear HO367; clear HO370; clear HO374; clear HB; have HO361 := n0_; have HO364 := n1_; have HO367 := n2_; have HO370 := n3_; have HO374 := n4_; have HO378 := n5_; have HB := n6_; clear n0_ n1_ n2_ n3_ n4_ n5_ n6_; clear hb ho26; obtain ⟨Ao27, co27, eo27⟩ := Kd.V_slice HO370.out; subst eo27; obtain ⟨Ao28, co28, eo28⟩ := Kd.R_slice HO378.out; subst eo28) | ((with_reducible refine gate_callee (f := 14) rfl ?_); refine goesM_ (some 23) Try.func14 #[.slice Ao27 t368.length co27, .slice Ao28 y376.length co28] rfl ?_; (with_reducible refine (astrolabelaw03_digits.calls k _ _ t368 _ _ y376 true _ ?side1 ?side2 ?side3 ?side4 A3.out).mono ?_); (case side1 => exact mvC (Kd.V_reads' HO370.out).2.2); (case side2 => exact (Kd.V_reads' HO370.out).2.1); (case side3 => exact mvC (Kd.R_reads' HO378.out).2.2); (case side4 => exact (Kd.R_reads' HO378.out).2.1); rintro e w' ⟨rfl, ⟨nd, rfl⟩⟩; refine ⟨_, rfl, ?_⟩) | ((with_reducible refine gate_dst (N := 25) rfl ?_); refine Kd.R_lit (Kd.int .u32) _ 37 ?hg (N := 25) ?hd (xs := ([99] : List Int)) (inner := [.int .u32 99]) (ok := fun _ => True) (okp := fun _ => True) ?hr ?hp (fun _ hk => hk) trivial (Below.refl _ _) (Nat.le_refl _) (by simp) ?_; (case hd => rfl); (case hg => rfl); (case hr => first | (go_simp; done) | (go_simp; rfl)); (case hp => exact (Reps.one (show Kd.M (Kd.int .u32) _ _ _ 99 [.int .u32 99] from rfl) (Reps.none _ _))); intro v381 w29 ho30 hb hg_ hnew_; clear hg_ hnew_; (first | rw [← Ny380.out] at ho30 | (simp only [Int.reduceToNat] at ho30; rw [← Ny380.out] at ho30)); have n0_ := A0_ (Kd.R_elder' (mvR HO361.out) (Kd.R_base ho30) hb); have n1_ := A0_ (Kd.R_elder' (mvR HO364.out) (Kd.R_base ho30) hb); have n2_ := A0_ (Kd.R_elder' (mvR HO367.out) (Kd.R_base ho30) hb); have n3_ := A0_ (Kd.V_elder' (mvV HO370.out) (Kd.R_base ho30) hb); have n4_ := A0_ (Kd.R_elder' (mvR HO374.out) (Kd.R_base ho30) hb); have n5_ := A0_ (Kd.R_elder' (mvR HO378.out) (Kd.R_base ho30) hb); have n6_ := A0_ (Kd.R_lower (Kd.R_new' (Kd.R_new' (Kd.R_new' (Kd.R_new' (Kd.R_new' ho30 (Kd.R_lt (mvR HO361.out))) (Kd.R_lt (mvR HO364.out))) (Kd.R_lt (mvR HO367.out))) (Kd.R_lt (mvR HO374.out))) (Kd.R_lt (mvR HO378.out))) (below_size bl_)); have n7_ := A0_ (below_step bl_ hb); clear HO361; clear HO364; clear HO367; clear HO370; clear HO374; clear HO378; clear HB; have HO361 := n0_; have HO364 := n1_; have HO367 := n2_; have HO370 := n3_; have HO374 := n4_; have HO378 := n5_; have HO382 := n6_; have HB := n7_; clear n0_ n1_ n2_ n3_ n4_ n5_ n6_ n7_; clear hb ho30; obtain ⟨Ao31, co31, eo31⟩ := Kd.R_slice HO382.out; subst eo31) | ((with_reducible refine gate_callee (f := 17) rfl ?_); refine goesM_ (some 26) Try.func17 #[.slice Ao31 y380.length co31] rfl ?_; (with_reducible refine (quo_Sqrt.calls k _ _ y380 t383 t386 _ ?side1 ?side2 A4.out).mono ?_); (case side1 => exact mvC (Kd.R_reads' HO382.out).2.2); (case side2 => exact (Kd.R_reads' HO382.out).2.1); rintro e w32 ⟨v384, v387, rfl, ho0, ho1, hb⟩; refine ⟨_, rfl, ?_⟩; have n0_ := A0_ (Kd.R_below (mvR HO361.out) hb); have n1_ := A0_ (Kd.R_below (mvR HO364.out) hb); have n2_ := A0_ (Kd.R_below (mvR HO367.out) hb); have n3_ := A0_ (Kd.V_below (mvV HO370.out) hb); have n4_ := A0_ (Kd.R_below (mvR HO374.out) hb); have n5_ := A0_ (Kd.R_below (mvR HO378.out) hb); have n6_ := A0_ (Kd.R_below (mvR HO382.out) hb); have n7_ := A0_ (Kd.V_lower (Kd.V_mono (ok' := fun k_ => some k_ ≠ (.slice Ao18 y359.length co18 : Value).ownBlock ∧ some k_ ≠ (.slice Ao19 y362.length co19 : Value).ownBlock ∧ some k_ ≠ (.slice Ao23 t365.length co23 : Value).ownBlock ∧ some k_ ≠ (.slice Ao24 y372.length co24 : Value).ownBlock ∧ some k_ ≠ (.slice Ao28 y376.length co28 : Value).ownBlock ∧ some k_ ≠ (.slice Ao31 y380.length co31 : Value).ownBlock) ho0 (fun k_ hk_ => ⟨(Kd.fresh' (Kd.R_lt (mvR HO361.out)) k_ hk_), (Kd.fresh' (Kd.R_lt (mvR HO364.out)) k_ hk_), (Kd.fresh' (Kd.R_lt (mvR HO367.out)) k_ hk_), (Kd.fresh' (Kd.R_lt (mvR HO374.out)) k_ hk_), (Kd.fresh' (Kd.R_lt (mvR HO378.out)) k_ hk_), (Kd.fresh' (Kd.R_lt (mvR HO382.out)) k_ hk_)⟩)) (below_size bl_)); have n8_ := A0_ (Kd.V_lower (Kd.V_mono (ok' := fun k_ => some k_ ≠ (.slice Ao18 y359.length co18 : Value).ownBlock ∧ some k_ ≠ (.slice Ao19 y362.length co19 : Value).ownBlock ∧ some k_ ≠ (.slice Ao23 t365.length co23 : Value).ownBlock ∧ some k_ ≠ (.slice Ao24 y372.length co24 : Value).ownBlock ∧ some k_ ≠ (.slice Ao28 y376.length co28 : Value).ownBlock ∧ some k_ ≠ (.slice Ao31 y380.length co31 : Value).ownBlock) ho1 (fun k_ hk_ => ⟨(Kd.fresh' (Kd.R_lt (mvR HO361.out)) k_ hk_), (Kd.fresh' (Kd.R_lt (mvR HO364.out)) k_ hk_), (Kd.fresh' (Kd.R_lt (mvR HO367.out)) k_ hk_), (Kd.fresh' (Kd.R_lt (mvR HO374.out)) k_ hk_), (Kd.fresh' (Kd.R_lt (mvR HO378.out)) k_ hk_), (Kd.fresh' (Kd.R_lt (mvR HO382.out)) k_ hk_)⟩)) (below_size bl_)); have n9_ := A0_ (below_step bl_ hb); clear HO361; clear HO364; clear HO367; clear HO370; clear HO374; clear HO378; clear HO382; clear HB; have HO361 := n0_; have HO364 := n1_; have HO367 := n2_; have HO370 := n3_; have HO374 := n4_; have HO378 := n5_; have HO382 := n6_; have HO385 := n7_; have HO388 := n8_; have HB := n9_; clear n0_ n1_ n2_ n3_ n4_ n5_ n6_ n7_ n8_ n9_; (try clear hb); (try clear hb2); (try clear hk); (try clear hi); (try clear ho0); (try clear ho1)) | ((with_reducible refine gate_dst (N := 30) rfl ?_); refine Kd.R_lit (Kd.int .u32) _ 37 ?hg (N := 30) ?hd (xs := ([9] : List Int)) (inner := [.int .u32 9]) (ok := fun _ => True) (okp := fun _ => True) ?hr ?hp (fun _ hk => hk) trivial (Below.refl _ _) (Nat.le_refl _) (by simp) ?_; (case hd => rfl); (case hg => rfl); (case hr => first | (go_simp; done) | (go_simp; rfl)); (case hp => exact (Reps.one (show Kd.M (Kd.int .u32) _ _ _ 9 [.int .u32 9] from rfl) (Reps.none _ _))); intro v390 w33 ho34 hb hg_ hnew_; clear hg_ hnew_; (first | rw [← Ny389.out] at ho34 | (simp only [Int.reduceToNat] at ho34; rw [← Ny389.out] at ho34)); have n0_ := A0_ (Kd.R_elder' (mvR HO361.out) (Kd.R_base ho34) hb); have n1_ := A0_ (Kd.R_elder' (mvR HO364.out) (Kd.R_base ho34) hb); have n2_ := A0_ (Kd.R_elder' (mvR HO367.out) (Kd.R_base ho34) hb); have n3_ := A0_ (Kd.V_elder' (mvV HO370.out) (Kd.R_base ho34) hb); have n4_ := A0_ (Kd.R_elder' (mvR HO374.out) (Kd.R_base ho34) hb); have n5_ := A0_ (Kd.R_elder' (mvR HO378.out) (Kd.R_base ho34) hb); have n6_ := A0_ (Kd.R_elder' (mvR HO382.out) (Kd.R_base ho34) hb); have n7_ := A0_ (Kd.V_elder' (mvV HO385.out) (Kd.R_base ho34) hb); have n8_ := A0_ (Kd.V_elder' (mvV HO388.out) (Kd.R_base ho34) hb); have n9_ := A0_ (Kd.R_lower (Kd.R_new' (Kd.R_new' (Kd.R_new' (Kd.R_new' (Kd.R_new' (Kd.R_new' ho34 (Kd.R_lt (mvR HO361.out))) (Kd.R_lt (mvR HO364.out))) (Kd.R_lt (mvR HO367.out))) (Kd.R_lt (mvR HO374.out))) (Kd.R_lt (mvR HO378.out))) (Kd.R_lt (mvR HO382.out))) (below_size bl_)); have n10_ := A0_ (below_step bl_ hb); clear HO361; clear HO364; clear HO367; clear HO370; clear HO374; clear HO378; clear HO382; clear HO385; clear HO388; clear HB; have HO361 := n0_; have HO364 := n1_; have HO367 := n2_; have HO370 := n3_; have HO374 := n4_; have HO378 := n5_; have HO382 := n6_; have HO385 := n7_; have HO388 := n8_; have HO391 := n9_; have HB := n10_; clear n0_ n1_ n2_ n3_ n4_ n5_ n6_ n7_ n8_ n9_ n10_; clear hb ho34; obtain ⟨Ao35, co35, eo35⟩ := Kd.V_slice HO385.out; subst eo35; obtain ⟨Ao36, co36, eo36⟩ := Kd.R_slice HO391.out; subst eo36) | ((with_reducible refine gate_callee (f := 14) rfl ?_); refine goesM_ (some 31) Try.func14 #[.slice Ao35 t383.length co35, .slice Ao36 y389.length co36] rfl ?_; (with_reducible refine (astrolabelaw03_digits.calls k _ _ t383 _ _ y389 true _ ?side1 ?side2 ?side3 ?side4 A5.out).mono ?_); (case side1 => exact mvC (Kd.V_reads' HO385.out).2.2); (case side2 => exact (Kd.V_reads' HO385.out).2.1); (case side3 => exact mvC (Kd.R_reads' HO391.out).2.2); (case side4 => exact (Kd.R_reads' HO391.out).2.1); rintro e w' ⟨rfl, ⟨nd, rfl⟩⟩; refine ⟨_, rfl, ?_⟩) | ((with_reducible refine gate_dst (N := 33) rfl ?_); refine Kd.R_lit (Kd.int .u32) _ 37 ?hg (N := 33) ?hd (xs := ([18] : List Int)) (inner := [.int .u32 18]) (ok := fun _ => True) (okp := fun _ => True) ?hr ?hp (fun _ hk => hk) trivial (Below.refl _ _) (Nat.le_refl _) (by simp) ?_; (case hd => rfl); (case hg => rfl); (case hr => first | (go_simp; done) | (go_simp; rfl)); (case hp => exact (Reps.one (show Kd.M (Kd.int .u32) _ _ _ 18 [.int .u32 18] from rfl) (Reps.none _ _))); intro v394 w37 ho38 hb hg_ hnew_; clear hg_ hnew_; (first | rw [← Ny393.out] at ho38 | (simp only [Int.reduceToNat] at ho38; rw [← Ny393.out] at ho38)); have n0_ := A0_ (Kd.R_elder' (mvR HO361.out) (Kd.R_base ho38) hb); have n1_ := A0_ (Kd.R_elder' (mvR HO364.out) (Kd.R_base ho38) hb); have n2_ := A0_ (Kd.R_elder' (mvR HO367.out) (Kd.R_base ho38) hb); have n3_ := A0_ (Kd.V_elder' (mvV HO370.out) (Kd.R_base ho38) hb); have n4_ := A0_ (Kd.R_elder' (mvR HO374.out) (Kd.R_base ho38) hb); have n5_ := A0_ (Kd.R_elder' (mvR HO378.out) (Kd.R_base ho38) hb); have n6_ := A0_ (Kd.R_elder' (mvR HO382.out) (Kd.R_base ho38) hb); have n7_ := A0_ (Kd.V_elder' (mvV HO385.out) (Kd.R_base ho38) hb); have n8_ := A0_ (Kd.V_elder' (mvV HO388.out) (Kd.R_base ho38) hb); have n9_ := A0_ (Kd.R_elder' (mvR HO391.out) (Kd.R_base ho38) hb); have n10_ := A0_ (Kd.R_lower (Kd.R_new' (Kd.R_new' (Kd.R_new' (Kd.R_new' (Kd.R_new' (Kd.R_new' (Kd.R_new' ho38 (Kd.R_lt (mvR HO361.out))) (Kd.R_lt (mvR HO364.out))) (Kd.R_lt (mvR HO367.out))) (Kd.R_lt (mvR HO374.out))) (Kd.R_lt (mvR HO378.out))) (Kd.R_lt (mvR HO382.out))) (Kd.R_lt (mvR HO391.out))) (below_size bl_)); have n11_ := A0_ (below_step bl_ hb); clear HO361; clear HO364; clear HO367; clear HO370; clear HO374; clear HO378; clear HO382; clear HO385; clear HO388; clear HO391; clear HB; have HO361 := n0_; have HO364 := n1_; have HO367 := n2_; have HO370 := n3_; have HO374 := n4_; have HO378 := n5_; have HO382 := n6_; have HO385 := n7_; have HO388 := n8_; have HO391 := n9_; have HO395 := n10_; have HB := n11_; clear n0_ n1_ n2_ n3_ n4_ n5_ n6_ n7_ n8_ n9_ n10_ n11_; clear hb ho38; obtain ⟨Ao39, co39, eo39⟩ := Kd.V_slice HO388.out; subst eo39; obtain ⟨Ao40, co40, eo40⟩ := Kd.R_slice HO395.out; subst eo40) | ((with_reducible refine gate_callee (f := 14) rfl ?_); refine goesM_ (some 34) Try.func14 #[.slice Ao39 t386.length co39, .slice Ao40 y393.length co40] rfl ?_; (with_reducible refine (astrolabelaw03_digits.calls k _ _ t386 _ _ y393 true _ ?side1 ?side2 ?side3 ?side4 A6.out).mono ?_); (case side1 => exact mvC (Kd.V_reads' HO388.out).2.2); (case side2 => exact (Kd.V_reads' HO388.out).2.1); (case side3 => exact mvC (Kd.R_reads' HO395.out).2.2); (case side4 => exact (Kd.R_reads' HO395.out).2.1); rintro e w' ⟨rfl, ⟨nd, rfl⟩⟩; refine ⟨_, rfl, ?_⟩) | ((with_reducible refine gate_dst (N := 35) rfl ?_); refine Kd.R_lit (Kd.int .u32) _ 37 ?hg (N := 35) ?hd (xs := ([12] : List Int)) (inner := [.int .u32 12]) (ok := fun _ => True) (okp := fun _ => True) ?hr ?hp (fun _ hk => hk) trivial (Below.refl _ _) (Nat.le_refl _) (by simp) ?_; (case hd => rfl); (case hg => rfl); (case hr => first | (go_simp; done) | (go_simp; rfl)); (case hp => exact (Reps.one (show Kd.M (Kd.int .u32) _ _ _ 12 [.int .u32 12] from rfl) (Reps.none _ _))); intro v398 w41 ho42 hb hg_ hnew_; clear hg_ hnew_; (first | rw [← Ny397.out] at ho42 | (simp only [Int.reduceToNat] at ho42; rw [← Ny397.out] at ho42)); have n0_ := A0_ (Kd.R_elder' (mvR HO361.out) (Kd.R_base ho42) hb); have n1_ := A0_ (Kd.R_elder' (mvR HO364.out) (Kd.R_base ho42) hb); have n2_ := A0_ (Kd.R_elder' (mvR HO367.out) (Kd.R_base ho42) hb); have n3_ := A0_ (Kd.V_elder' (mvV HO370.out) (Kd.R_base ho42) hb); have n4_ := A0_ (Kd.R_elder' (mvR HO374.out) (Kd.R_base ho42) hb); have n5_ := A0_ (Kd.R_elder' (mvR HO378.out) (Kd.R_base ho42) hb); have n6_ := A0_ (Kd.R_elder' (mvR HO382.out) (Kd.R_base ho42) hb); have n7_ := A0_ (Kd.V_elder' (mvV HO385.out) (Kd.R_base ho42) hb); have n8_ := A0_ (Kd.V_elder' (mvV HO388.out) (Kd.R_base ho42) hb); have n9_ := A0_ (Kd.R_elder' (mvR HO391.out) (Kd.R_base ho42) hb); have n10_ := A0_ (Kd.R_elder' (mvR HO395.out) (Kd.R_base ho42) hb); have n11_ := A0_ (Kd.R_lower (Kd.R_new' (Kd.R_new' (Kd.R_new' (Kd.R_new' (Kd.R_new' (Kd.R_new' (Kd.R_new' (Kd.R_new' ho42 (Kd.R_lt (mvR HO361.out))) (Kd.R_lt (mvR HO364.out))) (Kd.R_lt (mvR HO367.out))) (Kd.R_lt (mvR HO374.out))) (Kd.R_lt (mvR HO378.out))) (Kd.R_lt (mvR HO382.out))) (Kd.R_lt (mvR HO391.out))) (Kd.R_lt (mvR HO395.out))) (below_size bl_)); have n12_ := A0_ (below_step bl_ hb); clear HO361; clear HO364; clear HO367; clear HO370; clear HO374; clear HO378; clear HO382; clear HO385; clear HO388; clear HO391; clear HO395; clear HB; have HO361 := n0_; have HO364 := n1_; have HO367 := n2_; have HO370 := n3_; have HO374 := n4_; have HO378 := n5_; have HO382 := n6_; have HO385 := n7_; have HO388 := n8_; have HO391 := n9_; have HO395 := n10_; have HO399 := n11_; have HB := n12_; clear n0_ n1_ n2_ n3_ n4_ n5_ n6_ n7_ n8_ n9_ n10_ n11_ n12_; clear hb ho42) | ((with_reducible refine gate_dst (N := 36) rfl ?_); refine Kd.R_lit (Kd.int .u32) _ 37 ?hg (N := 36) ?hd (xs := ([18] : List Int)) (inner := [.int .u32 18]) (ok := fun _ => True) (okp := fun _ => True) ?hr ?hp (fun _ hk => hk) trivial (Below.refl _ _) (Nat.le_refl _) (by simp) ?_; (case hd => rfl); (case hg => rfl); (case hr => first | (go_simp; done) | (go_simp; rfl)); (case hp => exact (Reps.one (show Kd.M (Kd.int .u32) _ _ _ 18 [.int .u32 18] from rfl) (Reps.none _ _))); intro v401 w43 ho44 hb hg_ hnew_; clear hg_ hnew_; (first | rw [← Ny400.out] at ho44 | (simp only [Int.reduceToNat] at ho44; rw [← Ny400.out] at ho44)); have n0_ := A0_ (Kd.R_elder' (mvR HO361.out) (Kd.R_base ho44) hb); have n1_ := A0_ (Kd.R_elder' (mvR HO364.out) (Kd.R_base ho44) hb); have n2_ := A0_ (Kd.R_elder' (mvR HO367.out) (Kd.R_base ho44) hb); have n3_ := A0_ (Kd.V_elder' (mvV HO370.out) (Kd.R_base ho44) hb); have n4_ := A0_ (Kd.R_elder' (mvR HO374.out) (Kd.R_base ho44) hb); have n5_ := A0_ (Kd.R_elder' (mvR HO378.out) (Kd.R_base ho44) hb); have n6_ := A0_ (Kd.R_elder' (mvR HO382.out) (Kd.R_base ho44) hb); have n7_ := A0_ (Kd.V_elder' (mvV HO385.out) (Kd.R_base ho44) hb); have n8_ := A0_ (Kd.V_elder' (mvV HO388.out) (Kd.R_base ho44) hb); have n9_ := A0_ (Kd.R_elder' (mvR HO391.out) (Kd.R_base ho44) hb); have n10_ := A0_ (Kd.R_elder' (mvR HO395.out) (Kd.R_base ho44) hb); have n11_ := A0_ (Kd.R_elder' (mvR HO399.out) (Kd.R_base ho44) hb); have n12_ := A0_ (Kd.R_lower (Kd.R_new' (Kd.R_new' (Kd.R_new' (Kd.R_new' (Kd.R_new' (Kd.R_new' (Kd.R_new' (Kd.R_new' (Kd.R_new' ho44 (Kd.R_lt (mvR HO361.out))) (Kd.R_lt (mvR HO364.out))) (Kd.R_lt (mvR HO367.out))) (Kd.R_lt (mvR HO374.out))) (Kd.R_lt (mvR HO378.out))) (Kd.R_lt (mvR HO382.out))) (Kd.R_lt (mvR HO391.out))) (Kd.R_lt (mvR HO395.out))) (Kd.R_lt (mvR HO399.out))) (below_size bl_)); have n13_ := A0_ (below_step bl_ hb); clear HO361; clear HO364; clear HO367; clear HO370; clear HO374; clear HO378; clear HO382; clear HO385; clear HO388; clear HO391; clear HO395; clear HO399; clear HB; have HO361 := n0_; have HO364 := n1_; have HO367 := n2_; have HO370 := n3_; have HO374 := n4_; have HO378 := n5_; have HO382 := n6_; have HO385 := n7_; have HO388 := n8_; have HO391 := n9_; have HO395 := n10_; have HO399 := n11_; have HO402 := n12_; have HB := n13_; clear n0_ n1_ n2_ n3_ n4_ n5_ n6_ n7_ n8_ n9_ n10_ n11_ n12_ n13_; clear hb ho44; obtain ⟨Ao45, co45, eo45⟩ := Kd.R_slice HO399.out; subst eo45; obtain ⟨Ao46, co46, eo46⟩ := Kd.R_slice HO402.out; subst eo46) | ((with_reducible refine gate_callee (f := 15) rfl ?_); refine goesM_ (some 37) Try.func15 #[.slice Ao45 y397.length co45, .slice Ao46 y400.length co46] rfl ?_; (with_reducible refine (quo_Gcd.calls k _ _ y397 _ _ y400 t403 _ ?side1 ?side2 ?side3 ?side4 A7.out).mono ?_); (case side1 => exact mvC (Kd.R_reads' HO399.out).2.2); (case side2 => exact (Kd.R_reads' HO399.out).2.1); (case side3 => exact mvC (Kd.R_reads' HO402.out).2.2); (case side4 => exact (Kd.R_reads' HO402.out).2.1); rintro e w47 ⟨v404, rfl, ho0, hb⟩; refine ⟨_, rfl, ?_⟩; have n0_ := A0_ (Kd.R_below (mvR HO361.out) hb); have n1_ := A0_ (Kd.R_below (mvR HO364.out) hb); have n2_ := A0_ (Kd.R_below (mvR HO367.out) hb); have n3_ := A0_ (Kd.V_below (mvV HO370.out) hb); have n4_ := A0_ (Kd.R_below (mvR HO374.out) hb); have n5_ := A0_ (Kd.R_below (mvR HO378.out) hb); have n6_ := A0_ (Kd.R_below (mvR HO382.out) hb); have n7_ := A0_ (Kd.V_below (mvV HO385.out) hb); have n8_ := A0_ (Kd.V_below (mvV HO388.out) hb); have n9_ := A0_ (Kd.R_below (mvR HO391.out) hb); have n10_ := A0_ (Kd.R_below (mvR HO395.out) hb); have n11_ := A0_ (Kd.R_below (mvR HO399.out) hb); have n12_ := A0_ (Kd.R_below (mvR HO402.out) hb); have n13_ := A0_ (Kd.V_lower (Kd.V_mono (ok' := fun k_ => some k_ ≠ (.slice Ao18 y359.length co18 : Value).ownBlock ∧ some k_ ≠ (.slice Ao19 y362.length co19 : Value).ownBlock ∧ some k_ ≠ (.slice Ao23 t365.length co23 : Value).ownBlock ∧ some k_ ≠ (.slice Ao24 y372.length co24 : Value).ownBlock ∧ some k_ ≠ (.slice Ao28 y376.length co28 : Value).ownBlock ∧ some k_ ≠ (.slice Ao31 y380.length co31 : Value).ownBlock ∧ some k_ ≠ (.slice Ao36 y389.length co36 : Value).ownBlock ∧ some k_ ≠ (.slice Ao40 y393.length co40 : Value).ownBlock ∧ some k_ ≠ (.slice Ao45 y397.length co45 : Value).ownBlock ∧ some k_ ≠ (.slice Ao46 y400.length co46 : Value).ownBlock) ho0 (fun k_ hk_ => ⟨(Kd.fresh' (Kd.R_lt (mvR HO361.out)) k_ hk_), (Kd.fresh' (Kd.R_lt (mvR HO364.out)) k_ hk_), (Kd.fresh' (Kd.R_lt (mvR HO367.out)) k_ hk_), (Kd.fresh' (Kd.R_lt (mvR HO374.out)) k_ hk_), (Kd.fresh' (Kd.R_lt (mvR HO378.out)) k_ hk_), (Kd.fresh' (Kd.R_lt (mvR HO382.out)) k_ hk_), (Kd.fresh' (Kd.R_lt (mvR HO391.out)) k_ hk_), (Kd.fresh' (Kd.R_lt (mvR HO395.out)) k_ hk_), (Kd.fresh' (Kd.R_lt (mvR HO399.out)) k_ hk_), (Kd.fresh' (Kd.R_lt (mvR HO402.out)) k_ hk_)⟩)) (below_size bl_)); have n14_ := A0_ (below_step bl_ hb); clear HO361; clear HO364; clear HO367; clear HO370; clear HO374; clear HO378; clear HO382; clear HO385; clear HO388; clear HO391; clear HO395; clear HO399; clear HO402; clear HB; have HO361 := n0_; have HO364 := n1_; have HO367 := n2_; have HO370 := n3_; have HO374 := n4_; have HO378 := n5_; have HO382 := n6_; have HO385 := n7_; have HO388 := n8_; have HO391 := n9_; have HO395 := n10_; have HO399 := n11_; have HO402 := n12_; have HO405 := n13_; have HB := n14_; clear n0_ n1_ n2_ n3_ n4_ n5_ n6_ n7_ n8_ n9_ n10_ n11_ n12_ n13_ n14_; (try clear hb); (try clear hb2); (try clear hk); (try clear hi); (try clear ho0)) | ((with_reducible refine gate_dst (N := 38) rfl ?_); refine Kd.R_lit (Kd.int .u32) _ 37 ?hg (N := 38) ?hd (xs := ([6] : List Int)) (inner := [.int .u32 6]) (ok := fun _ => True) (okp := fun _ => True) ?hr ?hp (fun _ hk => hk) trivial (Below.refl _ _) (Nat.le_refl _) (by simp) ?_; (case hd => rfl); (case hg => rfl); (case hr => first | (go_simp; done) | (go_simp; rfl)); (case hp => exact (Reps.one (show Kd.M (Kd.int .u32) _ _ _ 6 [.int .u32 6] from rfl) (Reps.none _ _))); intro v407 w48 ho49 hb hg_ hnew_; clear hg_ hnew_; (first | rw [← Ny406.out] at ho49 | (simp only [Int.reduceToNat] at ho49; rw [← Ny406.out] at ho49)); have n0_ := A0_ (Kd.R_elder' (mvR HO361.out) (Kd.R_base ho49) hb); have n1_ := A0_ (Kd.R_elder' (mvR HO364.out) (Kd.R_base ho49) hb); have n2_ := A0_ (Kd.R_elder' (mvR HO367.out) (Kd.R_base ho49) hb); have n3_ := A0_ (Kd.V_elder' (mvV HO370.out) (Kd.R_base ho49) hb); have n4_ := A0_ (Kd.R_elder' (mvR HO374.out) (Kd.R_base ho49) hb); have n5_ := A0_ (Kd.R_elder' (mvR HO378.out) (Kd.R_base ho49) hb); have n6_ := A0_ (Kd.R_elder' (mvR HO382.out) (Kd.R_base ho49) hb); have n7_ := A0_ (Kd.V_elder' (mvV HO385.out) (Kd.R_base ho49) hb); have n8_ := A0_ (Kd.V_elder' (mvV HO388.out) (Kd.R_base ho49) hb); have n9_ := A0_ (Kd.R_elder' (mvR HO391.out) (Kd.R_base ho49) hb); have n10_ := A0_ (Kd.R_elder' (mvR HO395.out) (Kd.R_base ho49) hb); have n11_ := A0_ (Kd.R_elder' (mvR HO399.out) (Kd.R_base ho49) hb); have n12_ := A0_ (Kd.R_elder' (mvR HO402.out) (Kd.R_base ho49) hb); have n13_ := A0_ (Kd.V_elder' (mvV HO405.out) (Kd.R_base ho49) hb); have n14_ := A0_ (Kd.R_lower (Kd.R_new' (Kd.R_new' (Kd.R_new' (Kd.R_new' (Kd.R_new' (Kd.R_new' (Kd.R_new' (Kd.R_new' (Kd.R_new' (Kd.R_new' ho49 (Kd.R_lt (mvR HO361.out))) (Kd.R_lt (mvR HO364.out))) (Kd.R_lt (mvR HO367.out))) (Kd.R_lt (mvR HO374.out))) (Kd.R_lt (mvR HO378.out))) (Kd.R_lt (mvR HO382.out))) (Kd.R_lt (mvR HO391.out))) (Kd.R_lt (mvR HO395.out))) (Kd.R_lt (mvR HO399.out))) (Kd.R_lt (mvR HO402.out))) (below_size bl_)); have n15_ := A0_ (below_step bl_ hb); clear HO361; clear HO364; clear HO367; clear HO370; clear HO374; clear HO378; clear HO382; clear HO385; clear HO388; clear HO391; clear HO395; clear HO399; clear HO402; clear HO405; clear HB; have HO361 := n0_; have HO364 := n1_; have HO367 := n2_; have HO370 := n3_; have HO374 := n4_; have HO378 := n5_; have HO382 := n6_; have HO385 := n7_; have HO388 := n8_; have HO391 := n9_; have HO395 := n10_; have HO399 := n11_; have HO402 := n12_; have HO405 := n13_; have HO408 := n14_; have HB := n15_; clear n0_ n1_ n2_ n3_ n4_ n5_ n6_ n7_ n8_ n9_ n10_ n11_ n12_ n13_ n14_ n15_; clear hb ho49; obtain ⟨Ao50, co50, eo50⟩ := Kd.V_slice HO405.out; subst eo50; obtain ⟨Ao51, co51, eo51⟩ := Kd.R_slice HO408.out; subst eo51) | ((with_reducible refine gate_callee (f := 14) rfl ?_); refine goesM_ (some 39) Try.func14 #[.slice Ao50 t403.length co50, .slice Ao51 y406.length co51] rfl ?_; (with_reducible refine (astrolabelaw03_digits.calls k _ _ t403 _ _ y406 t409 _ ?side1 ?side2 ?side3 ?side4 A8.out).mono ?_); (case side1 => exact mvC (Kd.V_reads' HO405.out).2.2); (case side2 => exact (Kd.V_reads' HO405.out).2.1); (case side3 => exact mvC (Kd.R_reads' HO408.out).2.2); (case side4 => exact (Kd.R_reads' HO408.out).2.1); rintro e w' ⟨rfl, ⟨nd, rfl⟩⟩; refine ⟨_, rfl, ?_⟩))
            go_ret
            exact ⟨by first | rfl | (simp [errW_none, errW_some] <;> rfl) | (simp [*, errW_none, errW_some] <;> rfl), bl_⟩
          · replace c13 := Bool.eq_false_iff.mpr c13
            subst c13
            have H1 : (none) = some r := by rw [if_neg (show ¬ (false = true) by decide)] at H; exact H
            clear H
            have H := H1
            clear H1
            exact absurd H (by simp)
        · replace c12 := Bool.eq_false_iff.mpr c12
          subst c12
          have H1 : (none) = some r := by rw [if_neg (show ¬ (false = true) by decide)] at H; exact H
          clear H
          have H := H1
          clear H1
          exact absurd H (by simp)
      · replace c11 := Bool.eq_false_iff.mpr c11
        subst c11
        have H1 : (none) = some r := by rw [if_neg (show ¬ (false = true) by decide)] at H; exact H
        clear H
        have H := H1
        clear H1
        exact absurd H (by simp)
    · replace c10 := Bool.eq_false_iff.mpr c10
      subst c10
      have H1 : (none) = some r := by rw [if_neg (show ¬ (false = true) by decide)] at H; exact H
      clear H
      have H := H1
      clear H1
      exact absurd H (by simp)
  · replace c9 := Bool.eq_false_iff.mpr c9
    subst c9
    have H1 : (none) = some r := by rw [if_neg (show ¬ (false = true) by decide)] at H; exact H
    clear H
    have H := H1
    clear H1
    exact absurd H (by simp)

end Go.Proofs.Ytohkjfdcmiiehaa.P
