/- What the Go functions of these names come to, as plain Lean functions, and the walks that show it. Written for this claim by a turned copy of the print program; Lean checks it. -/
import Derived.Test.YtpodpfppbkjbcaaP0
import Derived.Test.YtpodpfppbkjbcaaP1
import Derived.Test.YtpodpfppbkjbcaaP2
import Derived.Test.YtpodpfppbkjbcaaP3
import Derived.Test.YtpodpfppbkjbcaaP7
import Derived.Test.YtpodpfppbkjbcaaP8
namespace Go.Proofs.Ytpodpfppbkjbcaa.P
open Go.RowKit Go.Proofs.YtpodpfppbkjbcaaW.PrintWords Go.Proofs.YtpodpfppbkjbcaaW.PrintLast Go.Proofs.YtpodpfppbkjbcaaW.PrintMore
attribute [local go_sem] max2_int min2_int max_two min_two max_three min_three max_four min_four   -- for this text's walks alone
set_option linter.unusedVariables false
set_option linter.unusedSimpArgs false

/-! ### astrolabelaw02_KaraOnes: function 6 -/
mutual
def astrolabelaw02_KaraOnes.j0 : Nat → Int → Int → Bool → Option (Bool)
  | 0, _, _, _ => none
  | k + 1, x0, x1, x5 => if x1 < 0 then (astrolabelaw02_KaraOnes.j1 k x0 (wrap64 (-(wrap64 (x1 + 1)))) x5) else (astrolabelaw02_KaraOnes.j1 k x0 x1 x5)
def astrolabelaw02_KaraOnes.j1 : Nat → Int → Int → Bool → Option (Bool)
  | 0, _, _, _ => none
  | k + 1, x0, x1, x5 => (some (([1] : List Int) : List Int)).bind fun y372 => ((nat_Shl.f k y372 (wrap64 (1 + (Int.tmod x0 2000)))).bind fun bt375 => ((nat_Shl.f k y372 (wrap64 (1 + (Int.tmod x1 2000)))).bind fun bt379 => ((nat_Shl.f k y372 (wrap64 ((wrap64 (1 + (Int.tmod x0 2000))) + (wrap64 (1 + (Int.tmod x1 2000)))))).bind fun bt383 => ((nat_Sub.f k bt375.1 y372).bind fun bt387 => ((nat_Sub.f k bt379.1 y372).bind fun bt391 => ((nat_Add.f k bt383.1 y372).bind fun t395 => ((nat_Add.f k bt375.1 bt379.1).bind fun t398 => ((nat_Sub.f k t395 t398).bind fun bt401 => ((kara_Mul.f k bt387.1 bt391.1).bind fun t405 => ((astrolabelaw02_digits.f k t405 bt401.1).bind fun t408 => (if x5 = true then (if bt375.2 = true then (if bt379.2 = true then (if bt383.2 = true then (if bt387.2 = true then (if bt391.2 = true then (if bt401.2 = true then (some t408) else (none)) else (none)) else (none)) else (none)) else (none)) else (none)) else (none))))))))))))
end
def astrolabelaw02_KaraOnes.f (k : Nat) (a0 : Int) (a1 : Int) : Option (Bool) := (astrolabelaw02_examples.f k).bind fun t371 => (if t371 = true then (if a0 < 0 then (astrolabelaw02_KaraOnes.j0 k (wrap64 (-(wrap64 (a0 + 1)))) a1 t371) else (astrolabelaw02_KaraOnes.j0 k a0 a1 t371)) else (none))
theorem astrolabelaw02_KaraOnes.mono_l : ∀ k, (∀ y0 y1 y2, LeO (astrolabelaw02_KaraOnes.j0 k y0 y1 y2) (astrolabelaw02_KaraOnes.j0 (k + 1) y0 y1 y2)) ∧ (∀ y0 y1 y2, LeO (astrolabelaw02_KaraOnes.j1 k y0 y1 y2) (astrolabelaw02_KaraOnes.j1 (k + 1) y0 y1 y2))
  | 0 => ⟨fun _ _ _ r h => by simp [astrolabelaw02_KaraOnes.j0] at h, fun _ _ _ r h => by simp [astrolabelaw02_KaraOnes.j1] at h⟩
  | k + 1 => by
    obtain ⟨ih0, ih1⟩ := astrolabelaw02_KaraOnes.mono_l k
    refine ⟨?_, ?_⟩
    · intro y0 y1 y2
      unfold astrolabelaw02_KaraOnes.j0
      repeat' first
      | (with_reducible exact ih0 _ _ _)
      | (with_reducible exact ih1 _ _ _)
      | (with_reducible exact astrolabelaw02_digits.mono _ _ _)
      | (with_reducible exact astrolabelaw02_examples.mono _)
      | (with_reducible exact kara_Mul.mono _ _ _)
      | (with_reducible exact nat_Add.mono _ _ _)
      | (with_reducible exact nat_Shl.mono _ _ _)
      | (with_reducible exact nat_Sub.mono _ _ _)
      | (with_reducible exact LeO.refl _)
      | (with_reducible exact LeO.none _)
      | (with_reducible refine LeO.ite ?_ ?_)
      | (with_reducible refine LeO.bind ?_ (fun _ => ?_))
      | exact ih0 _ _ _
      | exact ih1 _ _ _
      | exact astrolabelaw02_digits.mono _ _ _
      | exact astrolabelaw02_examples.mono _
      | exact kara_Mul.mono _ _ _
      | exact nat_Add.mono _ _ _
      | exact nat_Shl.mono _ _ _
      | exact nat_Sub.mono _ _ _
      | exact LeO.none _
      | refine LeO.ite ?_ ?_
      | refine LeO.bind ?_ (fun _ => ?_)
    · intro y0 y1 y2
      unfold astrolabelaw02_KaraOnes.j1
      repeat' first
      | (with_reducible exact ih0 _ _ _)
      | (with_reducible exact ih1 _ _ _)
      | (with_reducible exact astrolabelaw02_digits.mono _ _ _)
      | (with_reducible exact astrolabelaw02_examples.mono _)
      | (with_reducible exact kara_Mul.mono _ _ _)
      | (with_reducible exact nat_Add.mono _ _ _)
      | (with_reducible exact nat_Shl.mono _ _ _)
      | (with_reducible exact nat_Sub.mono _ _ _)
      | (with_reducible exact LeO.refl _)
      | (with_reducible exact LeO.none _)
      | (with_reducible refine LeO.ite ?_ ?_)
      | (with_reducible refine LeO.bind ?_ (fun _ => ?_))
      | exact ih0 _ _ _
      | exact ih1 _ _ _
      | exact astrolabelaw02_digits.mono _ _ _
      | exact astrolabelaw02_examples.mono _
      | exact kara_Mul.mono _ _ _
      | exact nat_Add.mono _ _ _
      | exact nat_Shl.mono _ _ _
      | exact nat_Sub.mono _ _ _
      | exact LeO.none _
      | refine LeO.ite ?_ ?_
      | refine LeO.bind ?_ (fun _ => ?_)
theorem astrolabelaw02_KaraOnes.mono : ∀ a0 a1 k, LeO (astrolabelaw02_KaraOnes.f k a0 a1) (astrolabelaw02_KaraOnes.f (k + 1) a0 a1) := by
  intro a0 a1 k
  obtain ⟨ih0, ih1⟩ := astrolabelaw02_KaraOnes.mono_l k
  unfold astrolabelaw02_KaraOnes.f
  repeat' first
      | (with_reducible exact ih0 _ _ _)
      | (with_reducible exact ih1 _ _ _)
      | (with_reducible exact astrolabelaw02_digits.mono _ _ _)
      | (with_reducible exact astrolabelaw02_examples.mono _)
      | (with_reducible exact kara_Mul.mono _ _ _)
      | (with_reducible exact nat_Add.mono _ _ _)
      | (with_reducible exact nat_Shl.mono _ _ _)
      | (with_reducible exact nat_Sub.mono _ _ _)
      | (with_reducible exact LeO.refl _)
      | (with_reducible exact LeO.none _)
      | (with_reducible refine LeO.ite ?_ ?_)
      | (with_reducible refine LeO.bind ?_ (fun _ => ?_))
      | exact ih0 _ _ _
      | exact ih1 _ _ _
      | exact astrolabelaw02_digits.mono _ _ _
      | exact astrolabelaw02_examples.mono _
      | exact kara_Mul.mono _ _ _
      | exact nat_Add.mono _ _ _
      | exact nat_Shl.mono _ _ _
      | exact nat_Sub.mono _ _ _
      | exact LeO.none _
      | refine LeO.ite ?_ ?_
      | refine LeO.bind ?_ (fun _ => ?_)
set_option maxHeartbeats 8000000 in
set_option maxRecDepth 100000 in
theorem astrolabelaw02_KaraOnes.calls (k : Nat) (a0 : Int) (a1 : Int) (r : Bool) (w : World) (h : astrolabelaw02_KaraOnes.f k a0 a1 = some r) :
    Calls Try.prog 6 #[.int .i64 a0, .int .i64 a1] w fun e w' => e = .returned (.bool r) ∧ Below w.heap.size w w' := by
  have HB := Aside0.mk (Below.refl w.heap.size w)
  have H : ((astrolabelaw02_examples.f k).bind fun t371 => (if t371 = true then (if a0 < 0 then (astrolabelaw02_KaraOnes.j0 k (wrap64 (-(wrap64 (a0 + 1)))) a1 t371) else (astrolabelaw02_KaraOnes.j0 k a0 a1 t371)) else (none))) = some r := h
  clear h
  replace H := Option.bind_eq_some_iff.mp H
  obtain ⟨t371, A30, H⟩ := H
  replace H : (if t371 = true then (if a0 < 0 then (astrolabelaw02_KaraOnes.j0 k (wrap64 (-(wrap64 (a0 + 1)))) a1 t371) else (astrolabelaw02_KaraOnes.j0 k a0 a1 t371)) else (none)) = some r := H
  have A3 := Aside0.mk A30
  clear A30
  by_cases c4 : t371 = true
  · subst c4
    have H1 : (if a0 < 0 then (astrolabelaw02_KaraOnes.j0 k (wrap64 (-(wrap64 (a0 + 1)))) a1 true) else (astrolabelaw02_KaraOnes.j0 k a0 a1 true)) = some r := by rw [if_pos rfl] at H; exact H
    clear H
    have H := H1
    clear H1
    have HC5 := Aside0.mk H
    clear H
    go_enter Try.func6, Try.ntmps6
    go_upto_if 24 with (first | ((with_reducible refine gate_callee (f := 8) rfl ?_); refine goesL_ (some 20) rfl rfl Try.func8 (by kernel_rfl) rfl #[] rfl (by (try simp only [List.map_toArray, List.map_cons, List.map_nil]); first | done | rfl | (simp only [List.length_drop, List.length_take]; rfl)) ?_; (with_reducible refine (astrolabelaw02_examples.calls k  true _ A3.out).mono ?_); rintro e w6 ⟨rfl, hb⟩; refine ⟨_, rfl, ?_⟩; have n0_ := Aside0.mk (below_step (by repeat (first | (with_reducible first | exact HB.out | apply below_alloc | apply pw_below_drewN | apply below_drew1) | exact HB.out)) hb); clear HB; have HB := n0_; clear n0_; (try clear hb); (try clear hb2); (try clear hk); (try clear hi)))
    (try simp only [Act.put, List.setIfInBounds_toArray, List.set_cons_zero, List.set_cons_succ])
    go_cut [0] (fun v0 wc => ∃ (kq : Nat) (x0_4 : Int), v0 = .int .i64 x0_4 ∧ Aside0 (astrolabelaw02_KaraOnes.j0 kq x0_4 a1 true = some r) ∧ Aside0 (kq ≤ k) ∧ Aside0 (Below w.heap.size w wc))
    case first =>
      have H := HC5.out
      clear HC5
      by_cases c7 : a0 < 0
      · rw [if_pos c7] at H
        have c7b0 : decide (a0 < 0) = true := decide_eq_true c7
        clear c7
        (first | rw [c7b0] | (simp only [i64_w, i32_w]; rw [c7b0]) | rw [c7b1] | skip)
        have H' := Aside0.mk H
        clear H
        go_wp2
        go_meet
        case rel => exact ⟨_, (wrap64 (-(wrap64 (a0 + 1)))), (by first | rfl | (simp; done) | (simp [*]; done)), H', ⟨by first | omega | exact Nat.le_refl _⟩, ⟨by repeat (first | (with_reducible first | exact HB.out | apply below_alloc | apply pw_below_drewN | apply below_drew1) | exact HB.out)⟩⟩
      · rw [if_neg c7] at H
        have c7b0 : decide (a0 < 0) = false := decide_eq_false c7
        clear c7
        (first | rw [c7b0] | (simp only [i64_w, i32_w]; rw [c7b0]) | rw [c7b1] | skip)
        have H' := Aside0.mk H
        clear H
        go_wp2
        go_meet
        case rel => exact ⟨_, (a0), (by first | rfl | (simp; done) | (simp [*]; done)), H', ⟨by first | omega | exact Nat.le_refl _⟩, ⟨by repeat (first | (with_reducible first | exact HB.out | apply below_alloc | apply pw_below_drewN | apply below_drew1) | exact HB.out)⟩⟩
    case rest =>
      clear HC5
      try clear p2
      try clear c4
      try clear c6
      try clear p6
      try clear c7
      try clear c7b0
      try clear c7b1
      obtain ⟨kq, x0_4, rfl, HA, HJ4, HB⟩ := hcut
      cases kq with
      | zero => exact absurd HA.out (by simp [astrolabelaw02_KaraOnes.j0])
      | succ kj4 =>
        have H := HA.out
        clear HA
        simp only [astrolabelaw02_KaraOnes.j0] at H
        have HC8 := Aside0.mk H
        clear H
        go_upto_if 29 with (fail)
        go_cut [1] (fun v1 wc => ∃ (kq : Nat) (x1_7 : Int), v1 = .int .i64 x1_7 ∧ Aside0 (astrolabelaw02_KaraOnes.j1 kq x0_4 x1_7 true = some r) ∧ Aside0 (kq ≤ kj4) ∧ Aside0 (Below w.heap.size w wc))
        case first =>
          have H := HC8.out
          clear HC8
          by_cases c9 : a1 < 0
          · rw [if_pos c9] at H
            have c9b0 : decide (a1 < 0) = true := decide_eq_true c9
            clear c9
            (first | rw [c9b0] | (simp only [i64_w, i32_w]; rw [c9b0]) | rw [c9b1] | skip)
            have H' := Aside0.mk H
            clear H
            go_wp2
            go_meet
            case rel => exact ⟨_, (wrap64 (-(wrap64 (a1 + 1)))), (by first | rfl | (simp; done) | (simp [*]; done)), H', ⟨by have := HJ4.out; first | omega | exact Nat.le_refl _⟩, ⟨by repeat (first | (with_reducible first | exact HB.out | apply below_alloc | apply pw_below_drewN | apply below_drew1) | exact HB.out)⟩⟩
          · rw [if_neg c9] at H
            have c9b0 : decide (a1 < 0) = false := decide_eq_false c9
            clear c9
            (first | rw [c9b0] | (simp only [i64_w, i32_w]; rw [c9b0]) | rw [c9b1] | skip)
            have H' := Aside0.mk H
            clear H
            go_wp2
            go_meet
            case rel => exact ⟨_, (a1), (by first | rfl | (simp; done) | (simp [*]; done)), H', ⟨by have := HJ4.out; first | omega | exact Nat.le_refl _⟩, ⟨by repeat (first | (with_reducible first | exact HB.out | apply below_alloc | apply pw_below_drewN | apply below_drew1) | exact HB.out)⟩⟩
        case rest =>
          clear HC8
          try clear p2
          try clear c4
          try clear c6
          try clear p6
          try clear c7
          try clear c7b0
          try clear c7b1
          try clear c8
          try clear c9
          try clear c9b0
          try clear c9b1
          try clear p2
          try clear p6
          obtain ⟨kq, x1_7, rfl, HA, HJ7, HB⟩ := hcut
          cases kq with
          | zero => exact absurd HA.out (by simp [astrolabelaw02_KaraOnes.j1])
          | succ kj7 =>
            have H := HA.out
            clear HA
            simp only [astrolabelaw02_KaraOnes.j1] at H
            obtain ⟨y372, hy372⟩ : ∃ y_ : List Int, y_ = (([1] : List Int)) := ⟨_, rfl⟩
            replace H : ((nat_Shl.f kj7 y372 (wrap64 (1 + (Int.tmod x0_4 2000)))).bind fun bt375 => ((nat_Shl.f kj7 y372 (wrap64 (1 + (Int.tmod x1_7 2000)))).bind fun bt379 => ((nat_Shl.f kj7 y372 (wrap64 ((wrap64 (1 + (Int.tmod x0_4 2000))) + (wrap64 (1 + (Int.tmod x1_7 2000)))))).bind fun bt383 => ((nat_Sub.f kj7 bt375.1 y372).bind fun bt387 => ((nat_Sub.f kj7 bt379.1 y372).bind fun bt391 => ((nat_Add.f kj7 bt383.1 y372).bind fun t395 => ((nat_Add.f kj7 bt375.1 bt379.1).bind fun t398 => ((nat_Sub.f kj7 t395 t398).bind fun bt401 => ((kara_Mul.f kj7 bt387.1 bt391.1).bind fun t405 => ((astrolabelaw02_digits.f kj7 t405 bt401.1).bind fun t408 => (if true = true then (if bt375.2 = true then (if bt379.2 = true then (if bt383.2 = true then (if bt387.2 = true then (if bt391.2 = true then (if bt401.2 = true then (some t408) else (none)) else (none)) else (none)) else (none)) else (none)) else (none)) else (none)))))))))))) = some r := by first | (rw [hy372]; with_reducible exact H) | (have H2_ := (Option.bind_some _ _).symm.trans H; rw [hy372]; with_reducible exact H2_) | (have H2_ := (Option.bind_some _ _).symm.trans H; with_reducible exact H2_) | with_reducible exact H | (rw [hy372]; exact H) | exact H
            have Ny372 := Aside0.mk hy372
            clear hy372
            replace H := Option.bind_eq_some_iff.mp H
            obtain ⟨⟨t375, t378⟩, A100, H⟩ := H
            replace H : ((nat_Shl.f kj7 y372 (wrap64 (1 + (Int.tmod x1_7 2000)))).bind fun bt379 => ((nat_Shl.f kj7 y372 (wrap64 ((wrap64 (1 + (Int.tmod x0_4 2000))) + (wrap64 (1 + (Int.tmod x1_7 2000)))))).bind fun bt383 => ((nat_Sub.f kj7 t375 y372).bind fun bt387 => ((nat_Sub.f kj7 bt379.1 y372).bind fun bt391 => ((nat_Add.f kj7 bt383.1 y372).bind fun t395 => ((nat_Add.f kj7 t375 bt379.1).bind fun t398 => ((nat_Sub.f kj7 t395 t398).bind fun bt401 => ((kara_Mul.f kj7 bt387.1 bt391.1).bind fun t405 => ((astrolabelaw02_digits.f kj7 t405 bt401.1).bind fun t408 => (if true = true then (if t378 = true then (if bt379.2 = true then (if bt383.2 = true then (if bt387.2 = true then (if bt391.2 = true then (if bt401.2 = true then (some t408) else (none)) else (none)) else (none)) else (none)) else (none)) else (none)) else (none))))))))))) = some r := H
            have A10 := Aside0.mk A100
            clear A100
            replace H := Option.bind_eq_some_iff.mp H
            obtain ⟨⟨t379, t382⟩, A110, H⟩ := H
            replace H : ((nat_Shl.f kj7 y372 (wrap64 ((wrap64 (1 + (Int.tmod x0_4 2000))) + (wrap64 (1 + (Int.tmod x1_7 2000)))))).bind fun bt383 => ((nat_Sub.f kj7 t375 y372).bind fun bt387 => ((nat_Sub.f kj7 t379 y372).bind fun bt391 => ((nat_Add.f kj7 bt383.1 y372).bind fun t395 => ((nat_Add.f kj7 t375 t379).bind fun t398 => ((nat_Sub.f kj7 t395 t398).bind fun bt401 => ((kara_Mul.f kj7 bt387.1 bt391.1).bind fun t405 => ((astrolabelaw02_digits.f kj7 t405 bt401.1).bind fun t408 => (if true = true then (if t378 = true then (if t382 = true then (if bt383.2 = true then (if bt387.2 = true then (if bt391.2 = true then (if bt401.2 = true then (some t408) else (none)) else (none)) else (none)) else (none)) else (none)) else (none)) else (none)))))))))) = some r := H
            have A11 := Aside0.mk A110
            clear A110
            replace H := Option.bind_eq_some_iff.mp H
            obtain ⟨⟨t383, t386⟩, A120, H⟩ := H
            replace H : ((nat_Sub.f kj7 t375 y372).bind fun bt387 => ((nat_Sub.f kj7 t379 y372).bind fun bt391 => ((nat_Add.f kj7 t383 y372).bind fun t395 => ((nat_Add.f kj7 t375 t379).bind fun t398 => ((nat_Sub.f kj7 t395 t398).bind fun bt401 => ((kara_Mul.f kj7 bt387.1 bt391.1).bind fun t405 => ((astrolabelaw02_digits.f kj7 t405 bt401.1).bind fun t408 => (if true = true then (if t378 = true then (if t382 = true then (if t386 = true then (if bt387.2 = true then (if bt391.2 = true then (if bt401.2 = true then (some t408) else (none)) else (none)) else (none)) else (none)) else (none)) else (none)) else (none))))))))) = some r := H
            have A12 := Aside0.mk A120
            clear A120
            replace H := Option.bind_eq_some_iff.mp H
            obtain ⟨⟨t387, t390⟩, A130, H⟩ := H
            replace H : ((nat_Sub.f kj7 t379 y372).bind fun bt391 => ((nat_Add.f kj7 t383 y372).bind fun t395 => ((nat_Add.f kj7 t375 t379).bind fun t398 => ((nat_Sub.f kj7 t395 t398).bind fun bt401 => ((kara_Mul.f kj7 t387 bt391.1).bind fun t405 => ((astrolabelaw02_digits.f kj7 t405 bt401.1).bind fun t408 => (if true = true then (if t378 = true then (if t382 = true then (if t386 = true then (if t390 = true then (if bt391.2 = true then (if bt401.2 = true then (some t408) else (none)) else (none)) else (none)) else (none)) else (none)) else (none)) else (none)))))))) = some r := H
            have A13 := Aside0.mk A130
            clear A130
            replace H := Option.bind_eq_some_iff.mp H
            obtain ⟨⟨t391, t394⟩, A140, H⟩ := H
            replace H : ((nat_Add.f kj7 t383 y372).bind fun t395 => ((nat_Add.f kj7 t375 t379).bind fun t398 => ((nat_Sub.f kj7 t395 t398).bind fun bt401 => ((kara_Mul.f kj7 t387 t391).bind fun t405 => ((astrolabelaw02_digits.f kj7 t405 bt401.1).bind fun t408 => (if true = true then (if t378 = true then (if t382 = true then (if t386 = true then (if t390 = true then (if t394 = true then (if bt401.2 = true then (some t408) else (none)) else (none)) else (none)) else (none)) else (none)) else (none)) else (none))))))) = some r := H
            have A14 := Aside0.mk A140
            clear A140
            replace H := Option.bind_eq_some_iff.mp H
            obtain ⟨t395, A150, H⟩ := H
            replace H : ((nat_Add.f kj7 t375 t379).bind fun t398 => ((nat_Sub.f kj7 t395 t398).bind fun bt401 => ((kara_Mul.f kj7 t387 t391).bind fun t405 => ((astrolabelaw02_digits.f kj7 t405 bt401.1).bind fun t408 => (if true = true then (if t378 = true then (if t382 = true then (if t386 = true then (if t390 = true then (if t394 = true then (if bt401.2 = true then (some t408) else (none)) else (none)) else (none)) else (none)) else (none)) else (none)) else (none)))))) = some r := H
            have A15 := Aside0.mk A150
            clear A150
            replace H := Option.bind_eq_some_iff.mp H
            obtain ⟨t398, A160, H⟩ := H
            replace H : ((nat_Sub.f kj7 t395 t398).bind fun bt401 => ((kara_Mul.f kj7 t387 t391).bind fun t405 => ((astrolabelaw02_digits.f kj7 t405 bt401.1).bind fun t408 => (if true = true then (if t378 = true then (if t382 = true then (if t386 = true then (if t390 = true then (if t394 = true then (if bt401.2 = true then (some t408) else (none)) else (none)) else (none)) else (none)) else (none)) else (none)) else (none))))) = some r := H
            have A16 := Aside0.mk A160
            clear A160
            replace H := Option.bind_eq_some_iff.mp H
            obtain ⟨⟨t401, t404⟩, A170, H⟩ := H
            replace H : ((kara_Mul.f kj7 t387 t391).bind fun t405 => ((astrolabelaw02_digits.f kj7 t405 t401).bind fun t408 => (if true = true then (if t378 = true then (if t382 = true then (if t386 = true then (if t390 = true then (if t394 = true then (if t404 = true then (some t408) else (none)) else (none)) else (none)) else (none)) else (none)) else (none)) else (none)))) = some r := H
            have A17 := Aside0.mk A170
            clear A170
            replace H := Option.bind_eq_some_iff.mp H
            obtain ⟨t405, A180, H⟩ := H
            replace H : ((astrolabelaw02_digits.f kj7 t405 t401).bind fun t408 => (if true = true then (if t378 = true then (if t382 = true then (if t386 = true then (if t390 = true then (if t394 = true then (if t404 = true then (some t408) else (none)) else (none)) else (none)) else (none)) else (none)) else (none)) else (none))) = some r := H
            have A18 := Aside0.mk A180
            clear A180
            replace H := Option.bind_eq_some_iff.mp H
            obtain ⟨t408, A190, H⟩ := H
            replace H : (if true = true then (if t378 = true then (if t382 = true then (if t386 = true then (if t390 = true then (if t394 = true then (if t404 = true then (some t408) else (none)) else (none)) else (none)) else (none)) else (none)) else (none)) else (none)) = some r := H
            have A19 := Aside0.mk A190
            clear A190
            replace H : (if t378 = true then (if t382 = true then (if t386 = true then (if t390 = true then (if t394 = true then (if t404 = true then (some t408) else (none)) else (none)) else (none)) else (none)) else (none)) else (none)) = some r := by first | exact H | (rw [if_pos rfl] at H; exact H)
            by_cases c20 : t378 = true
            · subst c20
              have H1 : (if t382 = true then (if t386 = true then (if t390 = true then (if t394 = true then (if t404 = true then (some t408) else (none)) else (none)) else (none)) else (none)) else (none)) = some r := by rw [if_pos rfl] at H; exact H
              clear H
              have H := H1
              clear H1
              by_cases c21 : t382 = true
              · subst c21
                have H1 : (if t386 = true then (if t390 = true then (if t394 = true then (if t404 = true then (some t408) else (none)) else (none)) else (none)) else (none)) = some r := by rw [if_pos rfl] at H; exact H
                clear H
                have H := H1
                clear H1
                by_cases c22 : t386 = true
                · subst c22
                  have H1 : (if t390 = true then (if t394 = true then (if t404 = true then (some t408) else (none)) else (none)) else (none)) = some r := by rw [if_pos rfl] at H; exact H
                  clear H
                  have H := H1
                  clear H1
                  by_cases c23 : t390 = true
                  · subst c23
                    have H1 : (if t394 = true then (if t404 = true then (some t408) else (none)) else (none)) = some r := by rw [if_pos rfl] at H; exact H
                    clear H
                    have H := H1
                    clear H1
                    by_cases c24 : t394 = true
                    · subst c24
                      have H1 : (if t404 = true then (some t408) else (none)) = some r := by rw [if_pos rfl] at H; exact H
                      clear H
                      have H := H1
                      clear H1
                      by_cases c25 : t404 = true
                      · subst c25
                        have H1 : (some t408) = some r := by rw [if_pos rfl] at H; exact H
                        clear H
                        have H := H1
                        clear H1
                        obtain rfl := Option.some.inj H
                        go_wp2_with (first | ((with_reducible refine gate_dst (N := 39) rfl ?_); refine Kd.R_lit (Kd.int .u32) _ 31 ?hg (N := 39) ?hd (xs := ([1] : List Int)) (inner := [.int .u32 1]) (ok := fun _ => True) (okp := fun _ => True) ?hr ?hp (fun _ hk => hk) trivial (Below.refl _ _) (Nat.le_refl _) (by simp) ?_; (case hd => rfl); (case hg => rfl); (case hr => first | (go_simp; done) | (go_simp; rfl)); (case hp => exact (Reps.one (show Kd.M (Kd.int .u32) _ _ _ 1 [.int .u32 1] from rfl) (Reps.none _ _))); intro v373 w26 ho27 hb hg_ hnew_; clear hg_ hnew_; (first | rw [← Ny372.out] at ho27 | (simp only [Int.reduceToNat] at ho27; rw [← Ny372.out] at ho27)); have n0_ := Aside0.mk (Kd.R_lower ho27 (below_size (by repeat (first | (with_reducible first | exact HB.out | apply below_alloc | apply pw_below_drewN | apply below_drew1) | exact HB.out)))); have n1_ := Aside0.mk (below_step (by repeat (first | (with_reducible first | exact HB.out | apply below_alloc | apply pw_below_drewN | apply below_drew1) | exact HB.out)) hb); clear HB; have HO374 := n0_; have HB := n1_; clear n0_ n1_; clear hb ho27; obtain ⟨Ao28, co28, eo28⟩ := Kd.R_slice HO374.out; subst eo28) | ((with_reducible refine gate_callee (f := 16) rfl ?_); refine goesL_ (some 43) rfl rfl Try.func16 (by kernel_rfl) rfl #[.slice Ao28 y372.length co28, .int .i64 (wrap64 (1 + (Int.tmod x0_4 2000)))] rfl (by (try simp only [List.map_toArray, List.map_cons, List.map_nil]); first | done | rfl | (simp only [List.length_drop, List.length_take]; rfl)) ?_; (with_reducible refine (nat_Shl.calls kj7 (fun k_ => some k_ = (.slice Ao28 y372.length co28 : Value).ownBlock) _ _ y372 (wrap64 (1 + (Int.tmod x0_4 2000))) t375 true _ ?side1 A10.out).mono ?_); (case side1 => exact Kd.R_V (Kd.R_tight rfl (HO374.out))); rintro e w29 ⟨v376, rfl, ho0, hb⟩; refine ⟨_, rfl, ?_⟩; have n0_ := Aside0.mk (Kd.R_below (by (with_reducible repeat (first | apply Kd.R_alloc | apply Kd.R_drewN | apply Kd.R_drew)); exact HO374.out) hb); have n1_ := Aside0.mk (Kd.V_lower (Kd.V_mono (ok' := fun k_ => True) ho0 (fun k_ hk_ => trivial)) (below_size (by repeat (first | (with_reducible first | exact HB.out | apply below_alloc | apply pw_below_drewN | apply below_drew1) | exact HB.out)))); have n2_ := Aside0.mk (below_step (by repeat (first | (with_reducible first | exact HB.out | apply below_alloc | apply pw_below_drewN | apply below_drew1) | exact HB.out)) hb); clear HO374; clear HB; have HO374 := n0_; have HO377 := n1_; have HB := n2_; clear n0_ n1_ n2_; (try clear hb); (try clear hb2); (try clear hk); (try clear hi); (try clear ho0)) | ((with_reducible refine gate_callee (f := 16) rfl ?_); refine goesL_ (some 49) rfl rfl Try.func16 (by kernel_rfl) rfl #[.slice Ao28 y372.length co28, .int .i64 (wrap64 (1 + (Int.tmod x1_7 2000)))] rfl (by (try simp only [List.map_toArray, List.map_cons, List.map_nil]); first | done | rfl | (simp only [List.length_drop, List.length_take]; rfl)) ?_; (with_reducible refine (nat_Shl.calls kj7 (fun k_ => some k_ = (.slice Ao28 y372.length co28 : Value).ownBlock) _ _ y372 (wrap64 (1 + (Int.tmod x1_7 2000))) t379 true _ ?side1 A11.out).mono ?_); (case side1 => exact Kd.R_V (Kd.R_tight rfl (HO374.out))); rintro e w30 ⟨v380, rfl, ho0, hb⟩; refine ⟨_, rfl, ?_⟩; have n0_ := Aside0.mk (Kd.R_below (by (with_reducible repeat (first | apply Kd.R_alloc | apply Kd.R_drewN | apply Kd.R_drew)); exact HO374.out) hb); have n1_ := Aside0.mk (Kd.V_below (by (with_reducible repeat (first | apply Kd.V_alloc | apply Kd.V_drewN | apply Kd.V_drew)); exact HO377.out) hb); have n2_ := Aside0.mk (Kd.V_lower (Kd.V_mono (ok' := fun k_ => True) ho0 (fun k_ hk_ => trivial)) (below_size (by repeat (first | (with_reducible first | exact HB.out | apply below_alloc | apply pw_below_drewN | apply below_drew1) | exact HB.out)))); have n3_ := Aside0.mk (below_step (by repeat (first | (with_reducible first | exact HB.out | apply below_alloc | apply pw_below_drewN | apply below_drew1) | exact HB.out)) hb); clear HO374; clear HO377; clear HB; have HO374 := n0_; have HO377 := n1_; have HO381 := n2_; have HB := n3_; clear n0_ n1_ n2_ n3_; (try clear hb); (try clear hb2); (try clear hk); (try clear hi); (try clear ho0)) | ((with_reducible refine gate_callee (f := 16) rfl ?_); refine goesL_ (some 57) rfl rfl Try.func16 (by kernel_rfl) rfl #[.slice Ao28 y372.length co28, .int .i64 (wrap64 ((wrap64 (1 + (Int.tmod x0_4 2000))) + (wrap64 (1 + (Int.tmod x1_7 2000)))))] rfl (by (try simp only [List.map_toArray, List.map_cons, List.map_nil]); first | done | rfl | (simp only [List.length_drop, List.length_take]; rfl)) ?_; (with_reducible refine (nat_Shl.calls kj7 (fun k_ => some k_ = (.slice Ao28 y372.length co28 : Value).ownBlock) _ _ y372 (wrap64 ((wrap64 (1 + (Int.tmod x0_4 2000))) + (wrap64 (1 + (Int.tmod x1_7 2000))))) t383 true _ ?side1 A12.out).mono ?_); (case side1 => exact Kd.R_V (Kd.R_tight rfl (HO374.out))); rintro e w31 ⟨v384, rfl, ho0, hb⟩; refine ⟨_, rfl, ?_⟩; have n0_ := Aside0.mk (Kd.R_below (by (with_reducible repeat (first | apply Kd.R_alloc | apply Kd.R_drewN | apply Kd.R_drew)); exact HO374.out) hb); have n1_ := Aside0.mk (Kd.V_below (by (with_reducible repeat (first | apply Kd.V_alloc | apply Kd.V_drewN | apply Kd.V_drew)); exact HO377.out) hb); have n2_ := Aside0.mk (Kd.V_below (by (with_reducible repeat (first | apply Kd.V_alloc | apply Kd.V_drewN | apply Kd.V_drew)); exact HO381.out) hb); have n3_ := Aside0.mk (Kd.V_lower (Kd.V_mono (ok' := fun k_ => True) ho0 (fun k_ hk_ => trivial)) (below_size (by repeat (first | (with_reducible first | exact HB.out | apply below_alloc | apply pw_below_drewN | apply below_drew1) | exact HB.out)))); have n4_ := Aside0.mk (below_step (by repeat (first | (with_reducible first | exact HB.out | apply below_alloc | apply pw_below_drewN | apply below_drew1) | exact HB.out)) hb); clear HO374; clear HO377; clear HO381; clear HB; have HO374 := n0_; have HO377 := n1_; have HO381 := n2_; have HO385 := n3_; have HB := n4_; clear n0_ n1_ n2_ n3_ n4_; (try clear hb); (try clear hb2); (try clear hk); (try clear hi); (try clear ho0); obtain ⟨Ao32, co32, eo32⟩ := Kd.V_slice HO377.out; subst eo32) | ((with_reducible refine gate_callee (f := 17) rfl ?_); refine goesL_ (some 63) rfl rfl Try.func17 (by kernel_rfl) rfl #[.slice Ao32 t375.length co32, .slice Ao28 y372.length co28] rfl (by (try simp only [List.map_toArray, List.map_cons, List.map_nil]); first | done | rfl | (simp only [List.length_drop, List.length_take]; rfl)) ?_; (with_reducible refine (nat_Sub.calls kj7 (fun k_ => True) _ _ t375 (fun k_ => some k_ = (.slice Ao28 y372.length co28 : Value).ownBlock) _ _ y372 t387 true _ ?side1 ?side2 A13.out).mono ?_); (case side1 => exact HO377.out); (case side2 => exact Kd.R_V (Kd.R_tight rfl (HO374.out))); rintro e w33 ⟨v388, rfl, ho0, hb⟩; refine ⟨_, rfl, ?_⟩; have n0_ := Aside0.mk (Kd.R_below (by (with_reducible repeat (first | apply Kd.R_alloc | apply Kd.R_drewN | apply Kd.R_drew)); exact HO374.out) hb); have n1_ := Aside0.mk (Kd.V_below (by (with_reducible repeat (first | apply Kd.V_alloc | apply Kd.V_drewN | apply Kd.V_drew)); exact HO377.out) hb); have n2_ := Aside0.mk (Kd.V_below (by (with_reducible repeat (first | apply Kd.V_alloc | apply Kd.V_drewN | apply Kd.V_drew)); exact HO381.out) hb); have n3_ := Aside0.mk (Kd.V_below (by (with_reducible repeat (first | apply Kd.V_alloc | apply Kd.V_drewN | apply Kd.V_drew)); exact HO385.out) hb); have n4_ := Aside0.mk (Kd.V_lower (Kd.V_mono (ok' := fun k_ => True) ho0 (fun k_ hk_ => trivial)) (below_size (by repeat (first | (with_reducible first | exact HB.out | apply below_alloc | apply pw_below_drewN | apply below_drew1) | exact HB.out)))); have n5_ := Aside0.mk (below_step (by repeat (first | (with_reducible first | exact HB.out | apply below_alloc | apply pw_below_drewN | apply below_drew1) | exact HB.out)) hb); clear HO374; clear HO377; clear HO381; clear HO385; clear HB; have HO374 := n0_; have HO377 := n1_; have HO381 := n2_; have HO385 := n3_; have HO389 := n4_; have HB := n5_; clear n0_ n1_ n2_ n3_ n4_ n5_; (try clear hb); (try clear hb2); (try clear hk); (try clear hi); (try clear ho0); obtain ⟨Ao34, co34, eo34⟩ := Kd.V_slice HO381.out; subst eo34) | ((with_reducible refine gate_callee (f := 17) rfl ?_); refine goesL_ (some 69) rfl rfl Try.func17 (by kernel_rfl) rfl #[.slice Ao34 t379.length co34, .slice Ao28 y372.length co28] rfl (by (try simp only [List.map_toArray, List.map_cons, List.map_nil]); first | done | rfl | (simp only [List.length_drop, List.length_take]; rfl)) ?_; (with_reducible refine (nat_Sub.calls kj7 (fun k_ => True) _ _ t379 (fun k_ => some k_ = (.slice Ao28 y372.length co28 : Value).ownBlock) _ _ y372 t391 true _ ?side1 ?side2 A14.out).mono ?_); (case side1 => exact HO381.out); (case side2 => exact Kd.R_V (Kd.R_tight rfl (HO374.out))); rintro e w35 ⟨v392, rfl, ho0, hb⟩; refine ⟨_, rfl, ?_⟩; have n0_ := Aside0.mk (Kd.R_below (by (with_reducible repeat (first | apply Kd.R_alloc | apply Kd.R_drewN | apply Kd.R_drew)); exact HO374.out) hb); have n1_ := Aside0.mk (Kd.V_below (by (with_reducible repeat (first | apply Kd.V_alloc | apply Kd.V_drewN | apply Kd.V_drew)); exact HO377.out) hb); have n2_ := Aside0.mk (Kd.V_below (by (with_reducible repeat (first | apply Kd.V_alloc | apply Kd.V_drewN | apply Kd.V_drew)); exact HO381.out) hb); have n3_ := Aside0.mk (Kd.V_below (by (with_reducible repeat (first | apply Kd.V_alloc | apply Kd.V_drewN | apply Kd.V_drew)); exact HO385.out) hb); have n4_ := Aside0.mk (Kd.V_below (by (with_reducible repeat (first | apply Kd.V_alloc | apply Kd.V_drewN | apply Kd.V_drew)); exact HO389.out) hb); have n5_ := Aside0.mk (Kd.V_lower (Kd.V_mono (ok' := fun k_ => True) ho0 (fun k_ hk_ => trivial)) (below_size (by repeat (first | (with_reducible first | exact HB.out | apply below_alloc | apply pw_below_drewN | apply below_drew1) | exact HB.out)))); have n6_ := Aside0.mk (below_step (by repeat (first | (with_reducible first | exact HB.out | apply below_alloc | apply pw_below_drewN | apply below_drew1) | exact HB.out)) hb); clear HO374; clear HO377; clear HO381; clear HO385; clear HO389; clear HB; have HO374 := n0_; have HO377 := n1_; have HO381 := n2_; have HO385 := n3_; have HO389 := n4_; have HO393 := n5_; have HB := n6_; clear n0_ n1_ n2_ n3_ n4_ n5_ n6_; (try clear hb); (try clear hb2); (try clear hk); (try clear hi); (try clear ho0); obtain ⟨Ao36, co36, eo36⟩ := Kd.V_slice HO385.out; subst eo36) | ((with_reducible refine gate_callee (f := 15) rfl ?_); refine goesL_ (some 75) rfl rfl Try.func15 (by kernel_rfl) rfl #[.slice Ao36 t383.length co36, .slice Ao28 y372.length co28] rfl (by (try simp only [List.map_toArray, List.map_cons, List.map_nil]); first | done | rfl | (simp only [List.length_drop, List.length_take]; rfl)) ?_; (with_reducible refine (nat_Add.calls kj7 (fun k_ => True) _ _ t383 (fun k_ => some k_ = (.slice Ao28 y372.length co28 : Value).ownBlock) _ _ y372 t395 _ ?side1 ?side2 A15.out).mono ?_); (case side1 => exact HO385.out); (case side2 => exact Kd.R_V (Kd.R_tight rfl (HO374.out))); rintro e w37 ⟨v396, rfl, ho0, hb⟩; refine ⟨_, rfl, ?_⟩; have n0_ := Aside0.mk (Kd.R_below (by (with_reducible repeat (first | apply Kd.R_alloc | apply Kd.R_drewN | apply Kd.R_drew)); exact HO374.out) hb); have n1_ := Aside0.mk (Kd.V_below (by (with_reducible repeat (first | apply Kd.V_alloc | apply Kd.V_drewN | apply Kd.V_drew)); exact HO377.out) hb); have n2_ := Aside0.mk (Kd.V_below (by (with_reducible repeat (first | apply Kd.V_alloc | apply Kd.V_drewN | apply Kd.V_drew)); exact HO381.out) hb); have n3_ := Aside0.mk (Kd.V_below (by (with_reducible repeat (first | apply Kd.V_alloc | apply Kd.V_drewN | apply Kd.V_drew)); exact HO385.out) hb); have n4_ := Aside0.mk (Kd.V_below (by (with_reducible repeat (first | apply Kd.V_alloc | apply Kd.V_drewN | apply Kd.V_drew)); exact HO389.out) hb); have n5_ := Aside0.mk (Kd.V_below (by (with_reducible repeat (first | apply Kd.V_alloc | apply Kd.V_drewN | apply Kd.V_drew)); exact HO393.out) hb); have n6_ := Aside0.mk (Kd.V_lower (Kd.V_mono (ok' := fun k_ => True) ho0 (fun k_ hk_ => trivial)) (below_size (by repeat (first | (with_reducible first | exact HB.out | apply below_alloc | apply pw_below_drewN | apply below_drew1) | exact HB.out)))); have n7_ := Aside0.mk (below_step (by repeat (first | (with_reducible first | exact HB.out | apply below_alloc | apply pw_below_drewN | apply below_drew1) | exact HB.out)) hb); clear HO374; clear HO377; clear HO381; clear HO385; clear HO389; clear HO393; clear HB; have HO374 := n0_; have HO377 := n1_; have HO381 := n2_; have HO385 := n3_; have HO389 := n4_; have HO393 := n5_; have HO397 := n6_; have HB := n7_; clear n0_ n1_ n2_ n3_ n4_ n5_ n6_ n7_; (try clear hb); (try clear hb2); (try clear hk); (try clear hi); (try clear ho0)) | ((with_reducible refine gate_callee (f := 15) rfl ?_); refine goesL_ (some 78) rfl rfl Try.func15 (by kernel_rfl) rfl #[.slice Ao32 t375.length co32, .slice Ao34 t379.length co34] rfl (by (try simp only [List.map_toArray, List.map_cons, List.map_nil]); first | done | rfl | (simp only [List.length_drop, List.length_take]; rfl)) ?_; (with_reducible refine (nat_Add.calls kj7 (fun k_ => True) _ _ t375 (fun k_ => True) _ _ t379 t398 _ ?side1 ?side2 A16.out).mono ?_); (case side1 => exact HO377.out); (case side2 => exact HO381.out); rintro e w38 ⟨v399, rfl, ho0, hb⟩; refine ⟨_, rfl, ?_⟩; have n0_ := Aside0.mk (Kd.R_below (by (with_reducible repeat (first | apply Kd.R_alloc | apply Kd.R_drewN | apply Kd.R_drew)); exact HO374.out) hb); have n1_ := Aside0.mk (Kd.V_below (by (with_reducible repeat (first | apply Kd.V_alloc | apply Kd.V_drewN | apply Kd.V_drew)); exact HO377.out) hb); have n2_ := Aside0.mk (Kd.V_below (by (with_reducible repeat (first | apply Kd.V_alloc | apply Kd.V_drewN | apply Kd.V_drew)); exact HO381.out) hb); have n3_ := Aside0.mk (Kd.V_below (by (with_reducible repeat (first | apply Kd.V_alloc | apply Kd.V_drewN | apply Kd.V_drew)); exact HO385.out) hb); have n4_ := Aside0.mk (Kd.V_below (by (with_reducible repeat (first | apply Kd.V_alloc | apply Kd.V_drewN | apply Kd.V_drew)); exact HO389.out) hb); have n5_ := Aside0.mk (Kd.V_below (by (with_reducible repeat (first | apply Kd.V_alloc | apply Kd.V_drewN | apply Kd.V_drew)); exact HO393.out) hb); have n6_ := Aside0.mk (Kd.V_below (by (with_reducible repeat (first | apply Kd.V_alloc | apply Kd.V_drewN | apply Kd.V_drew)); exact HO397.out) hb); have n7_ := Aside0.mk (Kd.V_lower (Kd.V_mono (ok' := fun k_ => True) ho0 (fun k_ hk_ => trivial)) (below_size (by repeat (first | (with_reducible first | exact HB.out | apply below_alloc | apply pw_below_drewN | apply below_drew1) | exact HB.out)))); have n8_ := Aside0.mk (below_step (by repeat (first | (with_reducible first | exact HB.out | apply below_alloc | apply pw_below_drewN | apply below_drew1) | exact HB.out)) hb); clear HO374; clear HO377; clear HO381; clear HO385; clear HO389; clear HO393; clear HO397; clear HB; have HO374 := n0_; have HO377 := n1_; have HO381 := n2_; have HO385 := n3_; have HO389 := n4_; have HO393 := n5_; have HO397 := n6_; have HO400 := n7_; have HB := n8_; clear n0_ n1_ n2_ n3_ n4_ n5_ n6_ n7_ n8_; (try clear hb); (try clear hb2); (try clear hk); (try clear hi); (try clear ho0); obtain ⟨Ao39, co39, eo39⟩ := Kd.V_slice HO397.out; subst eo39; obtain ⟨Ao40, co40, eo40⟩ := Kd.V_slice HO400.out; subst eo40) | ((with_reducible refine gate_callee (f := 17) rfl ?_); refine goesL_ (some 79) rfl rfl Try.func17 (by kernel_rfl) rfl #[.slice Ao39 t395.length co39, .slice Ao40 t398.length co40] rfl (by (try simp only [List.map_toArray, List.map_cons, List.map_nil]); first | done | rfl | (simp only [List.length_drop, List.length_take]; rfl)) ?_; (with_reducible refine (nat_Sub.calls kj7 (fun k_ => True) _ _ t395 (fun k_ => True) _ _ t398 t401 true _ ?side1 ?side2 A17.out).mono ?_); (case side1 => exact HO397.out); (case side2 => exact HO400.out); rintro e w41 ⟨v402, rfl, ho0, hb⟩; refine ⟨_, rfl, ?_⟩; have n0_ := Aside0.mk (Kd.R_below (by (with_reducible repeat (first | apply Kd.R_alloc | apply Kd.R_drewN | apply Kd.R_drew)); exact HO374.out) hb); have n1_ := Aside0.mk (Kd.V_below (by (with_reducible repeat (first | apply Kd.V_alloc | apply Kd.V_drewN | apply Kd.V_drew)); exact HO377.out) hb); have n2_ := Aside0.mk (Kd.V_below (by (with_reducible repeat (first | apply Kd.V_alloc | apply Kd.V_drewN | apply Kd.V_drew)); exact HO381.out) hb); have n3_ := Aside0.mk (Kd.V_below (by (with_reducible repeat (first | apply Kd.V_alloc | apply Kd.V_drewN | apply Kd.V_drew)); exact HO385.out) hb); have n4_ := Aside0.mk (Kd.V_below (by (with_reducible repeat (first | apply Kd.V_alloc | apply Kd.V_drewN | apply Kd.V_drew)); exact HO389.out) hb); have n5_ := Aside0.mk (Kd.V_below (by (with_reducible repeat (first | apply Kd.V_alloc | apply Kd.V_drewN | apply Kd.V_drew)); exact HO393.out) hb); have n6_ := Aside0.mk (Kd.V_below (by (with_reducible repeat (first | apply Kd.V_alloc | apply Kd.V_drewN | apply Kd.V_drew)); exact HO397.out) hb); have n7_ := Aside0.mk (Kd.V_below (by (with_reducible repeat (first | apply Kd.V_alloc | apply Kd.V_drewN | apply Kd.V_drew)); exact HO400.out) hb); have n8_ := Aside0.mk (Kd.V_lower (Kd.V_mono (ok' := fun k_ => True) ho0 (fun k_ hk_ => trivial)) (below_size (by repeat (first | (with_reducible first | exact HB.out | apply below_alloc | apply pw_below_drewN | apply below_drew1) | exact HB.out)))); have n9_ := Aside0.mk (below_step (by repeat (first | (with_reducible first | exact HB.out | apply below_alloc | apply pw_below_drewN | apply below_drew1) | exact HB.out)) hb); clear HO374; clear HO377; clear HO381; clear HO385; clear HO389; clear HO393; clear HO397; clear HO400; clear HB; have HO374 := n0_; have HO377 := n1_; have HO381 := n2_; have HO385 := n3_; have HO389 := n4_; have HO393 := n5_; have HO397 := n6_; have HO400 := n7_; have HO403 := n8_; have HB := n9_; clear n0_ n1_ n2_ n3_ n4_ n5_ n6_ n7_ n8_ n9_; (try clear hb); (try clear hb2); (try clear hk); (try clear hi); (try clear ho0); obtain ⟨Ao42, co42, eo42⟩ := Kd.V_slice HO389.out; subst eo42; obtain ⟨Ao43, co43, eo43⟩ := Kd.V_slice HO393.out; subst eo43) | ((with_reducible refine gate_callee (f := 11) rfl ?_); refine goesL_ (some 84) rfl rfl Try.func11 (by kernel_rfl) rfl #[.slice Ao42 t387.length co42, .slice Ao43 t391.length co43] rfl (by (try simp only [List.map_toArray, List.map_cons, List.map_nil]); first | done | rfl | (simp only [List.length_drop, List.length_take]; rfl)) ?_; (with_reducible refine (kara_Mul.calls kj7 _ _ t387 _ _ t391 t405 _ ?side1 ?side2 ?side3 ?side4 A18.out).mono ?_); (case side1 => repeat (first | exact (Kd.V_reads' HO389.out).2.2 | (with_reducible refine Kd.C_alloc ?_ _) | (with_reducible refine Kd.C_drewN ?_ _) | (with_reducible refine Kd.C_drew ?_))); (case side2 => exact (Kd.V_reads' HO389.out).2.1); (case side3 => repeat (first | exact (Kd.V_reads' HO393.out).2.2 | (with_reducible refine Kd.C_alloc ?_ _) | (with_reducible refine Kd.C_drewN ?_ _) | (with_reducible refine Kd.C_drew ?_))); (case side4 => exact (Kd.V_reads' HO393.out).2.1); rintro e w44 ⟨v406, rfl, ho0, hb⟩; refine ⟨_, rfl, ?_⟩; have n0_ := Aside0.mk (Kd.R_below (by (with_reducible repeat (first | apply Kd.R_alloc | apply Kd.R_drewN | apply Kd.R_drew)); exact HO374.out) hb); have n1_ := Aside0.mk (Kd.V_below (by (with_reducible repeat (first | apply Kd.V_alloc | apply Kd.V_drewN | apply Kd.V_drew)); exact HO377.out) hb); have n2_ := Aside0.mk (Kd.V_below (by (with_reducible repeat (first | apply Kd.V_alloc | apply Kd.V_drewN | apply Kd.V_drew)); exact HO381.out) hb); have n3_ := Aside0.mk (Kd.V_below (by (with_reducible repeat (first | apply Kd.V_alloc | apply Kd.V_drewN | apply Kd.V_drew)); exact HO385.out) hb); have n4_ := Aside0.mk (Kd.V_below (by (with_reducible repeat (first | apply Kd.V_alloc | apply Kd.V_drewN | apply Kd.V_drew)); exact HO389.out) hb); have n5_ := Aside0.mk (Kd.V_below (by (with_reducible repeat (first | apply Kd.V_alloc | apply Kd.V_drewN | apply Kd.V_drew)); exact HO393.out) hb); have n6_ := Aside0.mk (Kd.V_below (by (with_reducible repeat (first | apply Kd.V_alloc | apply Kd.V_drewN | apply Kd.V_drew)); exact HO397.out) hb); have n7_ := Aside0.mk (Kd.V_below (by (with_reducible repeat (first | apply Kd.V_alloc | apply Kd.V_drewN | apply Kd.V_drew)); exact HO400.out) hb); have n8_ := Aside0.mk (Kd.V_below (by (with_reducible repeat (first | apply Kd.V_alloc | apply Kd.V_drewN | apply Kd.V_drew)); exact HO403.out) hb); have n9_ := Aside0.mk (Kd.V_lower (Kd.V_mono (ok' := fun k_ => some k_ ≠ (.slice Ao28 y372.length co28 : Value).ownBlock) ho0 (fun k_ hk_ => (Kd.fresh' (Kd.R_lt (by (with_reducible repeat (first | apply Kd.R_alloc | apply Kd.R_drewN | apply Kd.R_drew)); exact HO374.out)) k_ hk_))) (below_size (by repeat (first | (with_reducible first | exact HB.out | apply below_alloc | apply pw_below_drewN | apply below_drew1) | exact HB.out)))); have n10_ := Aside0.mk (below_step (by repeat (first | (with_reducible first | exact HB.out | apply below_alloc | apply pw_below_drewN | apply below_drew1) | exact HB.out)) hb); clear HO374; clear HO377; clear HO381; clear HO385; clear HO389; clear HO393; clear HO397; clear HO400; clear HO403; clear HB; have HO374 := n0_; have HO377 := n1_; have HO381 := n2_; have HO385 := n3_; have HO389 := n4_; have HO393 := n5_; have HO397 := n6_; have HO400 := n7_; have HO403 := n8_; have HO407 := n9_; have HB := n10_; clear n0_ n1_ n2_ n3_ n4_ n5_ n6_ n7_ n8_ n9_ n10_; (try clear hb); (try clear hb2); (try clear hk); (try clear hi); (try clear ho0); obtain ⟨Ao45, co45, eo45⟩ := Kd.V_slice HO407.out; subst eo45; obtain ⟨Ao46, co46, eo46⟩ := Kd.V_slice HO403.out; subst eo46) | ((with_reducible refine gate_callee (f := 10) rfl ?_); refine goesL_ (some 86) rfl rfl Try.func10 (by kernel_rfl) rfl #[.slice Ao45 t405.length co45, .slice Ao46 t401.length co46] rfl (by (try simp only [List.map_toArray, List.map_cons, List.map_nil]); first | done | rfl | (simp only [List.length_drop, List.length_take]; rfl)) ?_; (with_reducible refine (astrolabelaw02_digits.calls kj7 _ _ t405 _ _ t401 t408 _ ?side1 ?side2 ?side3 ?side4 A19.out).mono ?_); (case side1 => repeat (first | exact (Kd.V_reads' HO407.out).2.2 | (with_reducible refine Kd.C_alloc ?_ _) | (with_reducible refine Kd.C_drewN ?_ _) | (with_reducible refine Kd.C_drew ?_))); (case side2 => exact (Kd.V_reads' HO407.out).2.1); (case side3 => repeat (first | exact (Kd.V_reads' HO403.out).2.2 | (with_reducible refine Kd.C_alloc ?_ _) | (with_reducible refine Kd.C_drewN ?_ _) | (with_reducible refine Kd.C_drew ?_))); (case side4 => exact (Kd.V_reads' HO403.out).2.1); rintro e w' ⟨rfl, ⟨nd, rfl⟩⟩; refine ⟨_, rfl, ?_⟩))
                        go_ret
                        exact ⟨by first | rfl | (simp [errW_none, errW_some] <;> rfl) | (simp [*, errW_none, errW_some] <;> rfl), by repeat (first | (with_reducible first | exact HB.out | apply below_alloc | apply pw_below_drewN | apply below_drew1) | exact HB.out)⟩
                      · replace c25 := Bool.eq_false_iff.mpr c25
                        subst c25
                        have H1 : (none) = some r := by rw [if_neg (show ¬ (false = true) by decide)] at H; exact H
                        clear H
                        have H := H1
                        clear H1
                        exact absurd H (by simp)
                    · replace c24 := Bool.eq_false_iff.mpr c24
                      subst c24
                      have H1 : (none) = some r := by rw [if_neg (show ¬ (false = true) by decide)] at H; exact H
                      clear H
                      have H := H1
                      clear H1
                      exact absurd H (by simp)
                  · replace c23 := Bool.eq_false_iff.mpr c23
                    subst c23
                    have H1 : (none) = some r := by rw [if_neg (show ¬ (false = true) by decide)] at H; exact H
                    clear H
                    have H := H1
                    clear H1
                    exact absurd H (by simp)
                · replace c22 := Bool.eq_false_iff.mpr c22
                  subst c22
                  have H1 : (none) = some r := by rw [if_neg (show ¬ (false = true) by decide)] at H; exact H
                  clear H
                  have H := H1
                  clear H1
                  exact absurd H (by simp)
              · replace c21 := Bool.eq_false_iff.mpr c21
                subst c21
                have H1 : (none) = some r := by rw [if_neg (show ¬ (false = true) by decide)] at H; exact H
                clear H
                have H := H1
                clear H1
                exact absurd H (by simp)
            · replace c20 := Bool.eq_false_iff.mpr c20
              subst c20
              have H1 : (none) = some r := by rw [if_neg (show ¬ (false = true) by decide)] at H; exact H
              clear H
              have H := H1
              clear H1
              exact absurd H (by simp)
  · replace c4 := Bool.eq_false_iff.mpr c4
    subst c4
    have H1 : (none) = some r := by rw [if_neg (show ¬ (false = true) by decide)] at H; exact H
    clear H
    have H := H1
    clear H1
    exact absurd H (by simp)

/-- THE ONE PURE STATEMENT of astrolabelaw02_KaraOnes: yours. -/
def astrolabelaw02_KaraOnes.Pure : Prop := ∀ (a0 : Int) (a1 : Int), (Lit.int .i64 a0).wf = true → (Lit.int .i64 a1).wf = true → ∃ k, astrolabelaw02_KaraOnes.f k a0 a1 = some true
theorem astrolabelaw02_KaraOnes.walk (P : astrolabelaw02_KaraOnes.Pure) (a0 : Int) (a1 : Int) (w : World) (w0 : (Lit.int .i64 a0).wf = true) (w1 : (Lit.int .i64 a1).wf = true) :
    Calls Try.prog 6 #[.int .i64 a0, .int .i64 a1] w fun e w' => e = .returned (.bool true) ∧ Below w.heap.size w w' := by
  obtain ⟨k, h⟩ := P a0 a1 w0 w1
  refine (astrolabelaw02_KaraOnes.calls k a0 a1 true w h).mono ?_
  rintro e w' ⟨rfl, hd⟩
  exact ⟨rfl, hd⟩

end Go.Proofs.Ytpodpfppbkjbcaa.P
