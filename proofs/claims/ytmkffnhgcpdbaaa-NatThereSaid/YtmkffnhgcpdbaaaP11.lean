/- What the Go functions of these names come to, as plain Lean functions, and the walks that show it. Written for this claim by a turned copy of the print program; Lean checks it. -/
import Derived.Test.YtmkffnhgcpdbaaaP0
import Derived.Test.YtmkffnhgcpdbaaaP2
import Derived.Test.YtmkffnhgcpdbaaaP3
import Derived.Test.YtmkffnhgcpdbaaaP8
namespace Go.Proofs.Ytmkffnhgcpdbaaa.P
open Go.RowKit Go.Proofs.YtmkffnhgcpdbaaaW.PrintWords Go.Proofs.YtmkffnhgcpdbaaaW.PrintLast Go.Proofs.YtmkffnhgcpdbaaaW.PrintMore
attribute [local go_sem] max2_int min2_int max_two min_two max_three min_three max_four min_four   -- for this text's walks alone
set_option linter.unusedVariables false
set_option linter.unusedSimpArgs false

/-! ### astrolabelaw01_NatThere: function 5 -/
mutual
def astrolabelaw01_NatThere.j0 : Nat → List Int → Int → Int → Bool → Option (Bool)
  | 0, _, _, _, _ => none
  | k + 1, x0, x1, x2, x7 => if x2 < 0 then (astrolabelaw01_NatThere.j1 k x0 x1 (wrap64 (-(wrap64 (x2 + 1)))) x7) else (astrolabelaw01_NatThere.j1 k x0 x1 x2 x7)
def astrolabelaw01_NatThere.j1 : Nat → List Int → Int → Int → Bool → Option (Bool)
  | 0, _, _, _, _ => none
  | k + 1, x0, x1, x2, x7 => (nat_Shl.f k x0 (Int.tmod x1 3001)).bind fun bt319 => ((nat_Shl.f k (([1] : List Int)) (Int.tmod x1 3001)).bind fun bt326 => ((nat_Shr.f k bt319.1 (Int.tmod x1 3001)).bind fun t330 => ((nat_Trim.f k x0).bind fun t333 => ((astrolabelaw01_digits.f k t330 t333).bind fun t336 => ((nat_Mul.f k x0 bt326.1).bind fun t337 => ((astrolabelaw01_digits.f k bt319.1 t337).bind fun t340 => ((nat_Bits.f k bt319.1).bind fun t341 => ((nat_Bits.f k x0).bind fun t342 => ((nat_Bits.f k x0).bind fun t343 => (if t343 = 0 then ((nat_Bits.f k bt319.1).bind fun t344 => (astrolabelaw01_NatThere.j2 k x0 (Int.tmod x1 3001) (Int.tmod x2 3001) x7 bt319.1 bt319.2 bt326.2 t336 t340 (t344 == 0))) else (astrolabelaw01_NatThere.j2 k x0 (Int.tmod x1 3001) (Int.tmod x2 3001) x7 bt319.1 bt319.2 bt326.2 t336 t340 (t341 == (wrap64 (t342 + (Int.tmod x1 3001)))))))))))))))
def astrolabelaw01_NatThere.j2 : Nat → List Int → Int → Int → Bool → List Int → Bool → Bool → Bool → Bool → Bool → Option (Bool)
  | 0, _, _, _, _, _, _, _, _, _, _ => none
  | k + 1, x0, x1, x2, x7, x8, x9, x11, x12, x13, x14 => if x7 = true then (if x9 = true then (if x11 = true then (if x12 = true then (if x13 = true then (if x14 = true then ((nat_Bit.f x8 (wrap64 (x2 + x1))).bind fun t345 => ((nat_Bit.f x0 x2).bind fun t346 => (if (t345 == t346) = true then ((nat_Bits.f k x0).bind fun t347 => ((nat_Bit.f x0 (wrap64 (t347 + x2))).bind fun t348 => (some (!t348)))) else (none)))) else (none)) else (none)) else (none)) else (none)) else (none)) else (none)
end
def astrolabelaw01_NatThere.f (k : Nat) (l0 : List Int) (a1 : Int) (a2 : Int) : Option (Bool) := (astrolabelaw01_examples.f k).bind fun t317 => (if t317 = true then (if 0 ≤ (mn (l0.length : Int) 40) then (if (mn (l0.length : Int) 40) ≤ (l0.length : Int) then (if a1 < 0 then (astrolabelaw01_NatThere.j0 k (l0.take ((mn (l0.length : Int) 40) : Int).toNat) (wrap64 (-(wrap64 (a1 + 1)))) a2 t317) else (astrolabelaw01_NatThere.j0 k (l0.take ((mn (l0.length : Int) 40) : Int).toNat) a1 a2 t317)) else (none)) else (none)) else (none))
theorem astrolabelaw01_NatThere.mono_l : ∀ k, (∀ y0 y1 y2 y3, LeO (astrolabelaw01_NatThere.j0 k y0 y1 y2 y3) (astrolabelaw01_NatThere.j0 (k + 1) y0 y1 y2 y3)) ∧ (∀ y0 y1 y2 y3, LeO (astrolabelaw01_NatThere.j1 k y0 y1 y2 y3) (astrolabelaw01_NatThere.j1 (k + 1) y0 y1 y2 y3)) ∧ (∀ y0 y1 y2 y3 y4 y5 y6 y7 y8 y9, LeO (astrolabelaw01_NatThere.j2 k y0 y1 y2 y3 y4 y5 y6 y7 y8 y9) (astrolabelaw01_NatThere.j2 (k + 1) y0 y1 y2 y3 y4 y5 y6 y7 y8 y9))
  | 0 => ⟨fun _ _ _ _ r h => by simp [astrolabelaw01_NatThere.j0] at h, fun _ _ _ _ r h => by simp [astrolabelaw01_NatThere.j1] at h, fun _ _ _ _ _ _ _ _ _ _ r h => by simp [astrolabelaw01_NatThere.j2] at h⟩
  | k + 1 => by
    obtain ⟨ih0, ih1, ih2⟩ := astrolabelaw01_NatThere.mono_l k
    refine ⟨?_, ?_, ?_⟩
    · intro y0 y1 y2 y3
      unfold astrolabelaw01_NatThere.j0
      repeat' first
      | (with_reducible exact ih0 _ _ _ _)
      | (with_reducible exact ih1 _ _ _ _)
      | (with_reducible exact ih2 _ _ _ _ _ _ _ _ _ _)
      | (with_reducible exact astrolabelaw01_digits.mono _ _ _)
      | (with_reducible exact astrolabelaw01_examples.mono _)
      | (with_reducible exact nat_Bits.mono _ _)
      | (with_reducible exact nat_Mul.mono _ _ _)
      | (with_reducible exact nat_Shl.mono _ _ _)
      | (with_reducible exact nat_Shr.mono _ _ _)
      | (with_reducible exact nat_Trim.mono _ _)
      | (with_reducible exact LeO.refl _)
      | (with_reducible exact LeO.none _)
      | (with_reducible refine LeO.ite ?_ ?_)
      | (with_reducible refine LeO.bind ?_ (fun _ => ?_))
      | exact ih0 _ _ _ _
      | exact ih1 _ _ _ _
      | exact ih2 _ _ _ _ _ _ _ _ _ _
      | exact astrolabelaw01_digits.mono _ _ _
      | exact astrolabelaw01_examples.mono _
      | exact nat_Bits.mono _ _
      | exact nat_Mul.mono _ _ _
      | exact nat_Shl.mono _ _ _
      | exact nat_Shr.mono _ _ _
      | exact nat_Trim.mono _ _
      | exact LeO.none _
      | refine LeO.ite ?_ ?_
      | refine LeO.bind ?_ (fun _ => ?_)
    · intro y0 y1 y2 y3
      unfold astrolabelaw01_NatThere.j1
      repeat' first
      | (with_reducible exact ih0 _ _ _ _)
      | (with_reducible exact ih1 _ _ _ _)
      | (with_reducible exact ih2 _ _ _ _ _ _ _ _ _ _)
      | (with_reducible exact astrolabelaw01_digits.mono _ _ _)
      | (with_reducible exact astrolabelaw01_examples.mono _)
      | (with_reducible exact nat_Bits.mono _ _)
      | (with_reducible exact nat_Mul.mono _ _ _)
      | (with_reducible exact nat_Shl.mono _ _ _)
      | (with_reducible exact nat_Shr.mono _ _ _)
      | (with_reducible exact nat_Trim.mono _ _)
      | (with_reducible exact LeO.refl _)
      | (with_reducible exact LeO.none _)
      | (with_reducible refine LeO.ite ?_ ?_)
      | (with_reducible refine LeO.bind ?_ (fun _ => ?_))
      | exact ih0 _ _ _ _
      | exact ih1 _ _ _ _
      | exact ih2 _ _ _ _ _ _ _ _ _ _
      | exact astrolabelaw01_digits.mono _ _ _
      | exact astrolabelaw01_examples.mono _
      | exact nat_Bits.mono _ _
      | exact nat_Mul.mono _ _ _
      | exact nat_Shl.mono _ _ _
      | exact nat_Shr.mono _ _ _
      | exact nat_Trim.mono _ _
      | exact LeO.none _
      | refine LeO.ite ?_ ?_
      | refine LeO.bind ?_ (fun _ => ?_)
    · intro y0 y1 y2 y3 y4 y5 y6 y7 y8 y9
      unfold astrolabelaw01_NatThere.j2
      repeat' first
      | (with_reducible exact ih0 _ _ _ _)
      | (with_reducible exact ih1 _ _ _ _)
      | (with_reducible exact ih2 _ _ _ _ _ _ _ _ _ _)
      | (with_reducible exact astrolabelaw01_digits.mono _ _ _)
      | (with_reducible exact astrolabelaw01_examples.mono _)
      | (with_reducible exact nat_Bits.mono _ _)
      | (with_reducible exact nat_Mul.mono _ _ _)
      | (with_reducible exact nat_Shl.mono _ _ _)
      | (with_reducible exact nat_Shr.mono _ _ _)
      | (with_reducible exact nat_Trim.mono _ _)
      | (with_reducible exact LeO.refl _)
      | (with_reducible exact LeO.none _)
      | (with_reducible refine LeO.ite ?_ ?_)
      | (with_reducible refine LeO.bind ?_ (fun _ => ?_))
      | exact ih0 _ _ _ _
      | exact ih1 _ _ _ _
      | exact ih2 _ _ _ _ _ _ _ _ _ _
      | exact astrolabelaw01_digits.mono _ _ _
      | exact astrolabelaw01_examples.mono _
      | exact nat_Bits.mono _ _
      | exact nat_Mul.mono _ _ _
      | exact nat_Shl.mono _ _ _
      | exact nat_Shr.mono _ _ _
      | exact nat_Trim.mono _ _
      | exact LeO.none _
      | refine LeO.ite ?_ ?_
      | refine LeO.bind ?_ (fun _ => ?_)
theorem astrolabelaw01_NatThere.mono : ∀ a0 a1 a2 k, LeO (astrolabelaw01_NatThere.f k a0 a1 a2) (astrolabelaw01_NatThere.f (k + 1) a0 a1 a2) := by
  intro a0 a1 a2 k
  obtain ⟨ih0, ih1, ih2⟩ := astrolabelaw01_NatThere.mono_l k
  unfold astrolabelaw01_NatThere.f
  repeat' first
      | (with_reducible exact ih0 _ _ _ _)
      | (with_reducible exact ih1 _ _ _ _)
      | (with_reducible exact ih2 _ _ _ _ _ _ _ _ _ _)
      | (with_reducible exact astrolabelaw01_digits.mono _ _ _)
      | (with_reducible exact astrolabelaw01_examples.mono _)
      | (with_reducible exact nat_Bits.mono _ _)
      | (with_reducible exact nat_Mul.mono _ _ _)
      | (with_reducible exact nat_Shl.mono _ _ _)
      | (with_reducible exact nat_Shr.mono _ _ _)
      | (with_reducible exact nat_Trim.mono _ _)
      | (with_reducible exact LeO.refl _)
      | (with_reducible exact LeO.none _)
      | (with_reducible refine LeO.ite ?_ ?_)
      | (with_reducible refine LeO.bind ?_ (fun _ => ?_))
      | exact ih0 _ _ _ _
      | exact ih1 _ _ _ _
      | exact ih2 _ _ _ _ _ _ _ _ _ _
      | exact astrolabelaw01_digits.mono _ _ _
      | exact astrolabelaw01_examples.mono _
      | exact nat_Bits.mono _ _
      | exact nat_Mul.mono _ _ _
      | exact nat_Shl.mono _ _ _
      | exact nat_Shr.mono _ _ _
      | exact nat_Trim.mono _ _
      | exact LeO.none _
      | refine LeO.ite ?_ ?_
      | refine LeO.bind ?_ (fun _ => ?_)
set_option maxHeartbeats 8000000 in
set_option maxRecDepth 100000 in
theorem astrolabelaw01_NatThere.calls (k : Nat) (A0 : Option Addr) (c0 : Nat) (l0 : List Int) (a1 : Int) (a2 : Int) (r : Bool) (w : World) (hr0 : Kd.C (Kd.int .u32) w A0 l0.length l0) (hc0 : l0.length ≤ c0) (h : astrolabelaw01_NatThere.f k l0 a1 a2 = some r) :
    Calls Try.prog 5 #[.slice A0 l0.length c0, .int .i64 a1, .int .i64 a2] w fun e w' => e = .returned (.bool r) ∧ Below w.heap.size w w' := by
  have HR0 := Aside0.mk hr0
  have HC0 := Aside0.mk hc0
  clear hr0 hc0
  have HB := Aside0.mk (Below.refl w.heap.size w)
  have H : ((astrolabelaw01_examples.f k).bind fun t317 => (if t317 = true then (if 0 ≤ (mn (l0.length : Int) 40) then (if (mn (l0.length : Int) 40) ≤ (l0.length : Int) then (if a1 < 0 then (astrolabelaw01_NatThere.j0 k (l0.take ((mn (l0.length : Int) 40) : Int).toNat) (wrap64 (-(wrap64 (a1 + 1)))) a2 t317) else (astrolabelaw01_NatThere.j0 k (l0.take ((mn (l0.length : Int) 40) : Int).toNat) a1 a2 t317)) else (none)) else (none)) else (none))) = some r := h
  clear h
  replace H := Option.bind_eq_some_iff.mp H
  obtain ⟨t317, A40, H⟩ := H
  replace H : (if t317 = true then (if 0 ≤ (mn (l0.length : Int) 40) then (if (mn (l0.length : Int) 40) ≤ (l0.length : Int) then (if a1 < 0 then (astrolabelaw01_NatThere.j0 k (l0.take ((mn (l0.length : Int) 40) : Int).toNat) (wrap64 (-(wrap64 (a1 + 1)))) a2 t317) else (astrolabelaw01_NatThere.j0 k (l0.take ((mn (l0.length : Int) 40) : Int).toNat) a1 a2 t317)) else (none)) else (none)) else (none)) = some r := H
  have A4 := Aside0.mk A40
  clear A40
  by_cases c5 : t317 = true
  · subst c5
    have H1 : (if 0 ≤ (mn (l0.length : Int) 40) then (if (mn (l0.length : Int) 40) ≤ (l0.length : Int) then (if a1 < 0 then (astrolabelaw01_NatThere.j0 k (l0.take ((mn (l0.length : Int) 40) : Int).toNat) (wrap64 (-(wrap64 (a1 + 1)))) a2 true) else (astrolabelaw01_NatThere.j0 k (l0.take ((mn (l0.length : Int) 40) : Int).toNat) a1 a2 true)) else (none)) else (none)) = some r := by rw [if_pos rfl] at H; exact H
    clear H
    have H := H1
    clear H1
    obtain ⟨ji6, hji6⟩ : ∃ j_ : Int, (mn (l0.length : Int) 40) = j_ := ⟨_, rfl⟩
    replace H : (if 0 ≤ (ji6) then (if (ji6) ≤ (l0.length : Int) then (if a1 < 0 then (astrolabelaw01_NatThere.j0 k (l0.take ((ji6) : Int).toNat) (wrap64 (-(wrap64 (a1 + 1)))) a2 true) else (astrolabelaw01_NatThere.j0 k (l0.take ((ji6) : Int).toNat) a1 a2 true)) else (none)) else (none)) = some r := by first | (rw [hji6] at H; exact H) | (simp only [hji6] at H ⊢; exact H)
    (try rw [hji6] at A4)
    (try (have hji6h : ji6 ≤ 40 := by (rw [← hji6]; unfold mn; (repeat' split) <;> omega)))
    (try (have hji6g : ji6 ≤ 64 := by omega))
    (try (have hji6l : 0 ≤ ji6 := by (rw [← hji6]; unfold mn; (repeat' split) <;> omega)))
    (try (have hji6m : 0 ≤ ji6 := by omega))
    have hji6_ : (if 40 < (l0.length : Int) then 40 else (l0.length : Int)) = ji6 := hji6
    by_cases c7 : 0 ≤ (ji6)
    · rw [if_pos c7] at H
      have c7b0 := eq_true c7
      have c7b1 : decide (0 ≤ (ji6)) = true := decide_eq_true c7
      clear c7
      by_cases c8 : (ji6) ≤ (l0.length : Int)
      · rw [if_pos c8] at H
        have c8b0 := eq_true c8
        have c8b1 : decide ((ji6) ≤ (l0.length : Int)) = true := decide_eq_true c8
        clear c8
        have HC9 := Aside0.mk H
        clear H
        go_enter Try.func5, Try.ntmps5
        go_upto_if 24 with (first | ((with_reducible refine gate_callee (f := 11) rfl ?_); refine goesL_ (some 15) rfl rfl Try.func11 (by kernel_rfl) rfl #[] rfl (by (try simp only [List.map_toArray, List.map_cons, List.map_nil]); first | done | rfl | (simp only [List.length_drop, List.length_take]; rfl)) ?_; (with_reducible refine (astrolabelaw01_examples.calls k  true _ A4.out).mono ?_); rintro e w10 ⟨rfl, hb⟩; refine ⟨_, rfl, ?_⟩; have n0_ := Aside0.mk (below_step (by repeat (first | (with_reducible first | exact HB.out | apply below_alloc | apply pw_below_drewN | apply below_drew1) | exact HB.out)) hb); clear HB; have HB := n0_; clear n0_; (try clear hb); (try clear hb2); (try clear hk); (try clear hi); obtain ⟨i011, hi011, _, hsz11, _⟩ := info_parts info23; obtain ⟨hcut11, hA11, hC11⟩ := print_take_of (P := Try.prog) (Value.int .u32) 0 27 23 .i64 Try.underlying27 hi011 hsz11 A0 c0 l0 (ji6) (of_decide_eq_true (by first | (with_reducible assumption) | assumption)) (of_decide_eq_true (by first | (with_reducible assumption) | assumption)) HC0.out; have HR318 := Aside0.mk (Kd.C_of_reads (h1 := fun _ => rfl) (hA11 _ (Kd.reads_of_C HR0.out))); have HC318 := Aside0.mk hC11; clear hA11 hC11 hi011 hsz11))
        (try simp only [Act.put, List.setIfInBounds_toArray, List.set_cons_zero, List.set_cons_succ])
        go_cut [1] (fun v1 wc => ∃ (kq : Nat) (x1_8 : Int), v1 = .int .i64 x1_8 ∧ Aside0 (astrolabelaw01_NatThere.j0 kq (l0.take ((ji6) : Int).toNat) x1_8 a2 true = some r) ∧ Aside0 (kq ≤ k) ∧ Aside0 (Below w.heap.size w wc))
        case first =>
          have H := HC9.out
          clear HC9
          by_cases c12 : a1 < 0
          · rw [if_pos c12] at H
            have c12b0 : decide (a1 < 0) = true := decide_eq_true c12
            clear c12
            (first | rw [c12b0] | (simp only [i64_w, i32_w]; rw [c12b0]) | rw [c12b1] | skip)
            have H' := Aside0.mk H
            clear H
            go_wp2
            go_meet
            case rel => exact ⟨_, (wrap64 (-(wrap64 (a1 + 1)))), (by first | rfl | (simp; done) | (simp [*]; done)), H', ⟨by first | omega | exact Nat.le_refl _⟩, ⟨by repeat (first | (with_reducible first | exact HB.out | apply below_alloc | apply pw_below_drewN | apply below_drew1) | exact HB.out)⟩⟩
          · rw [if_neg c12] at H
            have c12b0 : decide (a1 < 0) = false := decide_eq_false c12
            clear c12
            (first | rw [c12b0] | (simp only [i64_w, i32_w]; rw [c12b0]) | rw [c12b1] | skip)
            have H' := Aside0.mk H
            clear H
            go_wp2
            go_meet
            case rel => exact ⟨_, (a1), (by first | rfl | (simp; done) | (simp [*]; done)), H', ⟨by first | omega | exact Nat.le_refl _⟩, ⟨by repeat (first | (with_reducible first | exact HB.out | apply below_alloc | apply pw_below_drewN | apply below_drew1) | exact HB.out)⟩⟩
        case rest =>
          clear HC9
          try clear c1
          try clear p2
          try clear c5
          try clear p6
          try clear c7
          try clear c7b0
          try clear c7b1
          try clear c8
          try clear c8b0
          try clear c8b1
          try clear c11
          try clear c12
          try clear c12b0
          try clear c12b1
          obtain ⟨kq, x1_8, rfl, HA, HJ8, HB⟩ := hcut
          cases kq with
          | zero => exact absurd HA.out (by simp [astrolabelaw01_NatThere.j0])
          | succ kj8 =>
            have H := HA.out
            clear HA
            simp only [astrolabelaw01_NatThere.j0] at H
            have HC13 := Aside0.mk H
            clear H
            go_upto_if 29 with (fail)
            go_cut [2] (fun v2 wc => ∃ (kq : Nat) (x2_12 : Int), v2 = .int .i64 x2_12 ∧ Aside0 (astrolabelaw01_NatThere.j1 kq (l0.take ((ji6) : Int).toNat) x1_8 x2_12 true = some r) ∧ Aside0 (kq ≤ kj8) ∧ Aside0 (Below w.heap.size w wc))
            case first =>
              have H := HC13.out
              clear HC13
              by_cases c14 : a2 < 0
              · rw [if_pos c14] at H
                have c14b0 : decide (a2 < 0) = true := decide_eq_true c14
                clear c14
                (first | rw [c14b0] | (simp only [i64_w, i32_w]; rw [c14b0]) | rw [c14b1] | skip)
                have H' := Aside0.mk H
                clear H
                go_wp2
                go_meet
                case rel => exact ⟨_, (wrap64 (-(wrap64 (a2 + 1)))), (by first | rfl | (simp; done) | (simp [*]; done)), H', ⟨by have := HJ8.out; first | omega | exact Nat.le_refl _⟩, ⟨by repeat (first | (with_reducible first | exact HB.out | apply below_alloc | apply pw_below_drewN | apply below_drew1) | exact HB.out)⟩⟩
              · rw [if_neg c14] at H
                have c14b0 : decide (a2 < 0) = false := decide_eq_false c14
                clear c14
                (first | rw [c14b0] | (simp only [i64_w, i32_w]; rw [c14b0]) | rw [c14b1] | skip)
                have H' := Aside0.mk H
                clear H
                go_wp2
                go_meet
                case rel => exact ⟨_, (a2), (by first | rfl | (simp; done) | (simp [*]; done)), H', ⟨by have := HJ8.out; first | omega | exact Nat.le_refl _⟩, ⟨by repeat (first | (with_reducible first | exact HB.out | apply below_alloc | apply pw_below_drewN | apply below_drew1) | exact HB.out)⟩⟩
            case rest =>
              clear HC13
              try clear c1
              try clear p2
              try clear c5
              try clear p6
              try clear c7
              try clear c7b0
              try clear c7b1
              try clear c8
              try clear c8b0
              try clear c8b1
              try clear c11
              try clear c12
              try clear c12b0
              try clear c12b1
              try clear c14
              try clear c14b0
              try clear c14b1
              try clear p2
              try clear p6
              obtain ⟨kq, x2_12, rfl, HA, HJ12, HB⟩ := hcut
              cases kq with
              | zero => exact absurd HA.out (by simp [astrolabelaw01_NatThere.j1])
              | succ kj12 =>
                have H := HA.out
                clear HA
                simp only [astrolabelaw01_NatThere.j1] at H
                replace H := Option.bind_eq_some_iff.mp H
                obtain ⟨⟨t319, t322⟩, A150, H⟩ := H
                replace H : ((nat_Shl.f kj12 (([1] : List Int)) (Int.tmod x1_8 3001)).bind fun bt326 => ((nat_Shr.f kj12 t319 (Int.tmod x1_8 3001)).bind fun t330 => ((nat_Trim.f kj12 (l0.take ((ji6) : Int).toNat)).bind fun t333 => ((astrolabelaw01_digits.f kj12 t330 t333).bind fun t336 => ((nat_Mul.f kj12 (l0.take ((ji6) : Int).toNat) bt326.1).bind fun t337 => ((astrolabelaw01_digits.f kj12 t319 t337).bind fun t340 => ((nat_Bits.f kj12 t319).bind fun t341 => ((nat_Bits.f kj12 (l0.take ((ji6) : Int).toNat)).bind fun t342 => ((nat_Bits.f kj12 (l0.take ((ji6) : Int).toNat)).bind fun t343 => (if t343 = 0 then ((nat_Bits.f kj12 t319).bind fun t344 => (astrolabelaw01_NatThere.j2 kj12 (l0.take ((ji6) : Int).toNat) (Int.tmod x1_8 3001) (Int.tmod x2_12 3001) true t319 t322 bt326.2 t336 t340 (t344 == 0))) else (astrolabelaw01_NatThere.j2 kj12 (l0.take ((ji6) : Int).toNat) (Int.tmod x1_8 3001) (Int.tmod x2_12 3001) true t319 t322 bt326.2 t336 t340 (t341 == (wrap64 (t342 + (Int.tmod x1_8 3001))))))))))))))) = some r := H
                have A15 := Aside0.mk A150
                clear A150
                obtain ⟨y323, hy323⟩ : ∃ y_ : List Int, y_ = (([1] : List Int)) := ⟨_, rfl⟩
                replace H : ((nat_Shl.f kj12 y323 (Int.tmod x1_8 3001)).bind fun bt326 => ((nat_Shr.f kj12 t319 (Int.tmod x1_8 3001)).bind fun t330 => ((nat_Trim.f kj12 (l0.take ((ji6) : Int).toNat)).bind fun t333 => ((astrolabelaw01_digits.f kj12 t330 t333).bind fun t336 => ((nat_Mul.f kj12 (l0.take ((ji6) : Int).toNat) bt326.1).bind fun t337 => ((astrolabelaw01_digits.f kj12 t319 t337).bind fun t340 => ((nat_Bits.f kj12 t319).bind fun t341 => ((nat_Bits.f kj12 (l0.take ((ji6) : Int).toNat)).bind fun t342 => ((nat_Bits.f kj12 (l0.take ((ji6) : Int).toNat)).bind fun t343 => (if t343 = 0 then ((nat_Bits.f kj12 t319).bind fun t344 => (astrolabelaw01_NatThere.j2 kj12 (l0.take ((ji6) : Int).toNat) (Int.tmod x1_8 3001) (Int.tmod x2_12 3001) true t319 t322 bt326.2 t336 t340 (t344 == 0))) else (astrolabelaw01_NatThere.j2 kj12 (l0.take ((ji6) : Int).toNat) (Int.tmod x1_8 3001) (Int.tmod x2_12 3001) true t319 t322 bt326.2 t336 t340 (t341 == (wrap64 (t342 + (Int.tmod x1_8 3001))))))))))))))) = some r := by first | (rw [hy323]; with_reducible exact H) | (have H2_ := (Option.bind_some _ _).symm.trans H; rw [hy323]; with_reducible exact H2_) | (have H2_ := (Option.bind_some _ _).symm.trans H; with_reducible exact H2_) | with_reducible exact H | (rw [hy323]; exact H) | exact H
                have Ny323 := Aside0.mk hy323
                clear hy323
                replace H := Option.bind_eq_some_iff.mp H
                obtain ⟨⟨t326, t329⟩, A160, H⟩ := H
                replace H : ((nat_Shr.f kj12 t319 (Int.tmod x1_8 3001)).bind fun t330 => ((nat_Trim.f kj12 (l0.take ((ji6) : Int).toNat)).bind fun t333 => ((astrolabelaw01_digits.f kj12 t330 t333).bind fun t336 => ((nat_Mul.f kj12 (l0.take ((ji6) : Int).toNat) t326).bind fun t337 => ((astrolabelaw01_digits.f kj12 t319 t337).bind fun t340 => ((nat_Bits.f kj12 t319).bind fun t341 => ((nat_Bits.f kj12 (l0.take ((ji6) : Int).toNat)).bind fun t342 => ((nat_Bits.f kj12 (l0.take ((ji6) : Int).toNat)).bind fun t343 => (if t343 = 0 then ((nat_Bits.f kj12 t319).bind fun t344 => (astrolabelaw01_NatThere.j2 kj12 (l0.take ((ji6) : Int).toNat) (Int.tmod x1_8 3001) (Int.tmod x2_12 3001) true t319 t322 t329 t336 t340 (t344 == 0))) else (astrolabelaw01_NatThere.j2 kj12 (l0.take ((ji6) : Int).toNat) (Int.tmod x1_8 3001) (Int.tmod x2_12 3001) true t319 t322 t329 t336 t340 (t341 == (wrap64 (t342 + (Int.tmod x1_8 3001)))))))))))))) = some r := H
                have A16 := Aside0.mk A160
                clear A160
                replace H := Option.bind_eq_some_iff.mp H
                obtain ⟨t330, A170, H⟩ := H
                replace H : ((nat_Trim.f kj12 (l0.take ((ji6) : Int).toNat)).bind fun t333 => ((astrolabelaw01_digits.f kj12 t330 t333).bind fun t336 => ((nat_Mul.f kj12 (l0.take ((ji6) : Int).toNat) t326).bind fun t337 => ((astrolabelaw01_digits.f kj12 t319 t337).bind fun t340 => ((nat_Bits.f kj12 t319).bind fun t341 => ((nat_Bits.f kj12 (l0.take ((ji6) : Int).toNat)).bind fun t342 => ((nat_Bits.f kj12 (l0.take ((ji6) : Int).toNat)).bind fun t343 => (if t343 = 0 then ((nat_Bits.f kj12 t319).bind fun t344 => (astrolabelaw01_NatThere.j2 kj12 (l0.take ((ji6) : Int).toNat) (Int.tmod x1_8 3001) (Int.tmod x2_12 3001) true t319 t322 t329 t336 t340 (t344 == 0))) else (astrolabelaw01_NatThere.j2 kj12 (l0.take ((ji6) : Int).toNat) (Int.tmod x1_8 3001) (Int.tmod x2_12 3001) true t319 t322 t329 t336 t340 (t341 == (wrap64 (t342 + (Int.tmod x1_8 3001))))))))))))) = some r := H
                have A17 := Aside0.mk A170
                clear A170
                replace H := Option.bind_eq_some_iff.mp H
                obtain ⟨t333, A180, H⟩ := H
                replace H : ((astrolabelaw01_digits.f kj12 t330 t333).bind fun t336 => ((nat_Mul.f kj12 (l0.take ((ji6) : Int).toNat) t326).bind fun t337 => ((astrolabelaw01_digits.f kj12 t319 t337).bind fun t340 => ((nat_Bits.f kj12 t319).bind fun t341 => ((nat_Bits.f kj12 (l0.take ((ji6) : Int).toNat)).bind fun t342 => ((nat_Bits.f kj12 (l0.take ((ji6) : Int).toNat)).bind fun t343 => (if t343 = 0 then ((nat_Bits.f kj12 t319).bind fun t344 => (astrolabelaw01_NatThere.j2 kj12 (l0.take ((ji6) : Int).toNat) (Int.tmod x1_8 3001) (Int.tmod x2_12 3001) true t319 t322 t329 t336 t340 (t344 == 0))) else (astrolabelaw01_NatThere.j2 kj12 (l0.take ((ji6) : Int).toNat) (Int.tmod x1_8 3001) (Int.tmod x2_12 3001) true t319 t322 t329 t336 t340 (t341 == (wrap64 (t342 + (Int.tmod x1_8 3001)))))))))))) = some r := H
                have A18 := Aside0.mk A180
                clear A180
                replace H := Option.bind_eq_some_iff.mp H
                obtain ⟨t336, A190, H⟩ := H
                replace H : ((nat_Mul.f kj12 (l0.take ((ji6) : Int).toNat) t326).bind fun t337 => ((astrolabelaw01_digits.f kj12 t319 t337).bind fun t340 => ((nat_Bits.f kj12 t319).bind fun t341 => ((nat_Bits.f kj12 (l0.take ((ji6) : Int).toNat)).bind fun t342 => ((nat_Bits.f kj12 (l0.take ((ji6) : Int).toNat)).bind fun t343 => (if t343 = 0 then ((nat_Bits.f kj12 t319).bind fun t344 => (astrolabelaw01_NatThere.j2 kj12 (l0.take ((ji6) : Int).toNat) (Int.tmod x1_8 3001) (Int.tmod x2_12 3001) true t319 t322 t329 t336 t340 (t344 == 0))) else (astrolabelaw01_NatThere.j2 kj12 (l0.take ((ji6) : Int).toNat) (Int.tmod x1_8 3001) (Int.tmod x2_12 3001) true t319 t322 t329 t336 t340 (t341 == (wrap64 (t342 + (Int.tmod x1_8 3001))))))))))) = some r := H
                have A19 := Aside0.mk A190
                clear A190
                replace H := Option.bind_eq_some_iff.mp H
                obtain ⟨t337, A200, H⟩ := H
                replace H : ((astrolabelaw01_digits.f kj12 t319 t337).bind fun t340 => ((nat_Bits.f kj12 t319).bind fun t341 => ((nat_Bits.f kj12 (l0.take ((ji6) : Int).toNat)).bind fun t342 => ((nat_Bits.f kj12 (l0.take ((ji6) : Int).toNat)).bind fun t343 => (if t343 = 0 then ((nat_Bits.f kj12 t319).bind fun t344 => (astrolabelaw01_NatThere.j2 kj12 (l0.take ((ji6) : Int).toNat) (Int.tmod x1_8 3001) (Int.tmod x2_12 3001) true t319 t322 t329 t336 t340 (t344 == 0))) else (astrolabelaw01_NatThere.j2 kj12 (l0.take ((ji6) : Int).toNat) (Int.tmod x1_8 3001) (Int.tmod x2_12 3001) true t319 t322 t329 t336 t340 (t341 == (wrap64 (t342 + (Int.tmod x1_8 3001)))))))))) = some r := H
                have A20 := Aside0.mk A200
                clear A200
                replace H := Option.bind_eq_some_iff.mp H
                obtain ⟨t340, A210, H⟩ := H
                replace H : ((nat_Bits.f kj12 t319).bind fun t341 => ((nat_Bits.f kj12 (l0.take ((ji6) : Int).toNat)).bind fun t342 => ((nat_Bits.f kj12 (l0.take ((ji6) : Int).toNat)).bind fun t343 => (if t343 = 0 then ((nat_Bits.f kj12 t319).bind fun t344 => (astrolabelaw01_NatThere.j2 kj12 (l0.take ((ji6) : Int).toNat) (Int.tmod x1_8 3001) (Int.tmod x2_12 3001) true t319 t322 t329 t336 t340 (t344 == 0))) else (astrolabelaw01_NatThere.j2 kj12 (l0.take ((ji6) : Int).toNat) (Int.tmod x1_8 3001) (Int.tmod x2_12 3001) true t319 t322 t329 t336 t340 (t341 == (wrap64 (t342 + (Int.tmod x1_8 3001))))))))) = some r := H
                have A21 := Aside0.mk A210
                clear A210
                replace H := Option.bind_eq_some_iff.mp H
                obtain ⟨t341, A220, H⟩ := H
                replace H : ((nat_Bits.f kj12 (l0.take ((ji6) : Int).toNat)).bind fun t342 => ((nat_Bits.f kj12 (l0.take ((ji6) : Int).toNat)).bind fun t343 => (if t343 = 0 then ((nat_Bits.f kj12 t319).bind fun t344 => (astrolabelaw01_NatThere.j2 kj12 (l0.take ((ji6) : Int).toNat) (Int.tmod x1_8 3001) (Int.tmod x2_12 3001) true t319 t322 t329 t336 t340 (t344 == 0))) else (astrolabelaw01_NatThere.j2 kj12 (l0.take ((ji6) : Int).toNat) (Int.tmod x1_8 3001) (Int.tmod x2_12 3001) true t319 t322 t329 t336 t340 (t341 == (wrap64 (t342 + (Int.tmod x1_8 3001)))))))) = some r := H
                have A22 := Aside0.mk A220
                clear A220
                replace H := Option.bind_eq_some_iff.mp H
                obtain ⟨t342, A230, H⟩ := H
                replace H : ((nat_Bits.f kj12 (l0.take ((ji6) : Int).toNat)).bind fun t343 => (if t343 = 0 then ((nat_Bits.f kj12 t319).bind fun t344 => (astrolabelaw01_NatThere.j2 kj12 (l0.take ((ji6) : Int).toNat) (Int.tmod x1_8 3001) (Int.tmod x2_12 3001) true t319 t322 t329 t336 t340 (t344 == 0))) else (astrolabelaw01_NatThere.j2 kj12 (l0.take ((ji6) : Int).toNat) (Int.tmod x1_8 3001) (Int.tmod x2_12 3001) true t319 t322 t329 t336 t340 (t341 == (wrap64 (t342 + (Int.tmod x1_8 3001))))))) = some r := H
                have A23 := Aside0.mk A230
                clear A230
                replace H := Option.bind_eq_some_iff.mp H
                obtain ⟨t343, A240, H⟩ := H
                replace H : (if t343 = 0 then ((nat_Bits.f kj12 t319).bind fun t344 => (astrolabelaw01_NatThere.j2 kj12 (l0.take ((ji6) : Int).toNat) (Int.tmod x1_8 3001) (Int.tmod x2_12 3001) true t319 t322 t329 t336 t340 (t344 == 0))) else (astrolabelaw01_NatThere.j2 kj12 (l0.take ((ji6) : Int).toNat) (Int.tmod x1_8 3001) (Int.tmod x2_12 3001) true t319 t322 t329 t336 t340 (t341 == (wrap64 (t342 + (Int.tmod x1_8 3001)))))) = some r := H
                have A24 := Aside0.mk A240
                clear A240
                obtain rfl : t342 = t343 := Option.some.inj (A23.out.symm.trans A24.out)
                have HC25 := Aside0.mk H
                clear H
                go_upto_if 69 with (first | ((with_reducible refine gate_callee (f := 19) rfl ?_); refine goesL_ (some 40) rfl rfl Try.func19 (by kernel_rfl) rfl #[.slice A0 (l0.take ((ji6) : Int).toNat).length c0, .int .i64 (Int.tmod x1_8 3001)] rfl (by (try simp only [List.map_toArray, List.map_cons, List.map_nil]); first | done | (rw [show (l0.take ((ji6) : Int).toNat).length = (ji6).toNat from (by rw [List.length_take]; have h_ : ((ji6) : Int) ≤ (l0.length : Int) := (by first | exact of_decide_eq_true (by first | (with_reducible assumption) | assumption) | (rw [← hji6]; unfold mn; split <;> omega)); omega)] <;> rfl) | (simp only [hji6]; rfl) | rfl | (simp only [List.length_drop, List.length_take]; rfl)) ?_; (with_reducible refine (nat_Shl.calls kj12 (fun k_ => k_ < w.heap.size) _ _ (l0.take ((ji6) : Int).toNat) (Int.tmod x1_8 3001) t319 t322 _ ?side1 A15.out).mono ?_); (case side1 => exact Kd.V_mk HC318.out (Kd.F_below (Kd.C_F (Kd.heap_int .u32) HR318.out) (by repeat (first | (with_reducible first | exact HB.out | apply below_alloc | apply pw_below_drewN | apply below_drew1) | exact HB.out)))); rintro e w26 ⟨v320, rfl, ho0, hb⟩; refine ⟨_, rfl, ?_⟩; have n0_ := Aside0.mk (Kd.V_lower (Kd.V_mono (ok' := fun k_ => True) ho0 (fun k_ hk_ => trivial)) (below_size (by repeat (first | (with_reducible first | exact HB.out | apply below_alloc | apply pw_below_drewN | apply below_drew1) | exact HB.out)))); have n1_ := Aside0.mk (below_step (by repeat (first | (with_reducible first | exact HB.out | apply below_alloc | apply pw_below_drewN | apply below_drew1) | exact HB.out)) hb); clear HB; have HO321 := n0_; have HB := n1_; clear n0_ n1_; (try clear hb); (try clear hb2); (try clear hk); (try clear hi); (try clear ho0)) | ((with_reducible refine gate_dst (N := 44) rfl ?_); refine Kd.R_lit (Kd.int .u32) _ 23 ?hg (N := 44) ?hd (xs := ([1] : List Int)) (inner := [.int .u32 1]) (ok := fun _ => True) (okp := fun _ => True) ?hr ?hp (fun _ hk => hk) trivial (Below.refl _ _) (Nat.le_refl _) (by simp) ?_; (case hd => rfl); (case hg => rfl); (case hr => first | (go_simp; done) | (go_simp; rfl)); (case hp => exact (Reps.one (show Kd.M (Kd.int .u32) _ _ _ 1 [.int .u32 1] from rfl) (Reps.none _ _))); intro v324 w27 ho28 hb hg_ hnew_; clear hg_ hnew_; (first | rw [← Ny323.out] at ho28 | (simp only [Int.reduceToNat] at ho28; rw [← Ny323.out] at ho28)); have n0_ := Aside0.mk (Kd.V_elder' (by (with_reducible repeat (first | apply Kd.V_alloc | apply Kd.V_drewN | apply Kd.V_drew)); exact HO321.out) (Kd.R_base ho28) hb); have n1_ := Aside0.mk (Kd.R_lower ho28 (below_size (by repeat (first | (with_reducible first | exact HB.out | apply below_alloc | apply pw_below_drewN | apply below_drew1) | exact HB.out)))); have n2_ := Aside0.mk (below_step (by repeat (first | (with_reducible first | exact HB.out | apply below_alloc | apply pw_below_drewN | apply below_drew1) | exact HB.out)) hb); clear HO321; clear HB; have HO321 := n0_; have HO325 := n1_; have HB := n2_; clear n0_ n1_ n2_; clear hb ho28; obtain ⟨Ao29, co29, eo29⟩ := Kd.R_slice HO325.out; subst eo29) | ((with_reducible refine gate_callee (f := 19) rfl ?_); refine goesL_ (some 46) rfl rfl Try.func19 (by kernel_rfl) rfl #[.slice Ao29 y323.length co29, .int .i64 (Int.tmod x1_8 3001)] rfl (by (try simp only [List.map_toArray, List.map_cons, List.map_nil]); first | done | rfl | (simp only [List.length_drop, List.length_take]; rfl)) ?_; (with_reducible refine (nat_Shl.calls kj12 (fun k_ => some k_ = (.slice Ao29 y323.length co29 : Value).ownBlock) _ _ y323 (Int.tmod x1_8 3001) t326 t329 _ ?side1 A16.out).mono ?_); (case side1 => exact Kd.R_V (Kd.R_tight rfl (HO325.out))); rintro e w30 ⟨v327, rfl, ho0, hb⟩; refine ⟨_, rfl, ?_⟩; have n0_ := Aside0.mk (Kd.V_below (by (with_reducible repeat (first | apply Kd.V_alloc | apply Kd.V_drewN | apply Kd.V_drew)); exact HO321.out) hb); have n1_ := Aside0.mk (Kd.R_below (by (with_reducible repeat (first | apply Kd.R_alloc | apply Kd.R_drewN | apply Kd.R_drew)); exact HO325.out) hb); have n2_ := Aside0.mk (Kd.V_lower (Kd.V_mono (ok' := fun k_ => True) ho0 (fun k_ hk_ => trivial)) (below_size (by repeat (first | (with_reducible first | exact HB.out | apply below_alloc | apply pw_below_drewN | apply below_drew1) | exact HB.out)))); have n3_ := Aside0.mk (below_step (by repeat (first | (with_reducible first | exact HB.out | apply below_alloc | apply pw_below_drewN | apply below_drew1) | exact HB.out)) hb); clear HO321; clear HO325; clear HB; have HO321 := n0_; have HO325 := n1_; have HO328 := n2_; have HB := n3_; clear n0_ n1_ n2_ n3_; (try clear hb); (try clear hb2); (try clear hk); (try clear hi); (try clear ho0); obtain ⟨Ao31, co31, eo31⟩ := Kd.V_slice HO321.out; subst eo31) | ((with_reducible refine gate_callee (f := 20) rfl ?_); refine goesL_ (some 51) rfl rfl Try.func20 (by kernel_rfl) rfl #[.slice Ao31 t319.length co31, .int .i64 (Int.tmod x1_8 3001)] rfl (by (try simp only [List.map_toArray, List.map_cons, List.map_nil]); first | done | rfl | (simp only [List.length_drop, List.length_take]; rfl)) ?_; (with_reducible refine (nat_Shr.calls kj12 (fun k_ => (True ∧ some k_ ≠ (.slice Ao29 y323.length co29 : Value).ownBlock)) _ _ t319 (Int.tmod x1_8 3001) t330 _ ?side1 A17.out).mono ?_); (case side1 => exact HO321.out); rintro e w32 ⟨v331, rfl, ho0, hb⟩; refine ⟨_, rfl, ?_⟩; have n0_ := Aside0.mk (Kd.V_below (by (with_reducible repeat (first | apply Kd.V_alloc | apply Kd.V_drewN | apply Kd.V_drew)); exact HO321.out) hb); have n1_ := Aside0.mk (Kd.R_below (by (with_reducible repeat (first | apply Kd.R_alloc | apply Kd.R_drewN | apply Kd.R_drew)); exact HO325.out) hb); have n2_ := Aside0.mk (Kd.V_below (by (with_reducible repeat (first | apply Kd.V_alloc | apply Kd.V_drewN | apply Kd.V_drew)); exact HO328.out) hb); have n3_ := Aside0.mk (Kd.V_lower (Kd.V_mono (ok' := fun k_ => some k_ ≠ (.slice Ao29 y323.length co29 : Value).ownBlock) ho0 (fun k_ hk_ => Or.elim hk_ (fun hs_ => hs_.2) (fun hn_ => (Kd.fresh' (Kd.R_lt (by (with_reducible repeat (first | apply Kd.R_alloc | apply Kd.R_drewN | apply Kd.R_drew)); exact HO325.out)) k_ hn_)))) (below_size (by repeat (first | (with_reducible first | exact HB.out | apply below_alloc | apply pw_below_drewN | apply below_drew1) | exact HB.out)))); have n4_ := Aside0.mk (below_step (by repeat (first | (with_reducible first | exact HB.out | apply below_alloc | apply pw_below_drewN | apply below_drew1) | exact HB.out)) hb); clear HO321; clear HO325; clear HO328; clear HB; have HO321 := n0_; have HO325 := n1_; have HO328 := n2_; have HO332 := n3_; have HB := n4_; clear n0_ n1_ n2_ n3_ n4_; (try clear hb); (try clear hb2); (try clear hk); (try clear hi); (try clear ho0)) | ((with_reducible refine gate_callee (f := 18) rfl ?_); refine goesL_ (some 53) rfl rfl Try.func18 (by kernel_rfl) rfl #[.slice A0 (l0.take ((ji6) : Int).toNat).length c0] rfl (by (try simp only [List.map_toArray, List.map_cons, List.map_nil]); first | done | (rw [show (l0.take ((ji6) : Int).toNat).length = (ji6).toNat from (by rw [List.length_take]; have h_ : ((ji6) : Int) ≤ (l0.length : Int) := (by first | exact of_decide_eq_true (by first | (with_reducible assumption) | assumption) | (rw [← hji6]; unfold mn; split <;> omega)); omega)] <;> rfl) | (simp only [hji6]; rfl) | rfl | (simp only [List.length_drop, List.length_take]; rfl)) ?_; (with_reducible refine (nat_Trim.calls kj12 _ _ (l0.take ((ji6) : Int).toNat) t333 _ ?side1 ?side2 A18.out).mono ?_); (case side1 => repeat (first | exact (Kd.C_below HR318.out HB.out) | (with_reducible refine Kd.C_alloc ?_ _) | (with_reducible refine Kd.C_drewN ?_ _) | (with_reducible refine Kd.C_drew ?_))); (case side2 => exact HC318.out); rintro e w33 ⟨v334, rfl, ho0, hb⟩; refine ⟨_, rfl, ?_⟩; have n0_ := Aside0.mk (Kd.V_elder' (by (with_reducible repeat (first | apply Kd.V_alloc | apply Kd.V_drewN | apply Kd.V_drew)); exact HO321.out) (Kd.R_base ho0) hb); have n1_ := Aside0.mk (Kd.R_elder' (by (with_reducible repeat (first | apply Kd.R_alloc | apply Kd.R_drewN | apply Kd.R_drew)); exact HO325.out) (Kd.R_base ho0) hb); have n2_ := Aside0.mk (Kd.V_elder' (by (with_reducible repeat (first | apply Kd.V_alloc | apply Kd.V_drewN | apply Kd.V_drew)); exact HO328.out) (Kd.R_base ho0) hb); have n3_ := Aside0.mk (Kd.V_elder' (by (with_reducible repeat (first | apply Kd.V_alloc | apply Kd.V_drewN | apply Kd.V_drew)); exact HO332.out) (Kd.R_base ho0) hb); have n4_ := Aside0.mk (Kd.R_lower (Kd.R_new' ho0 (Kd.R_lt (by (with_reducible repeat (first | apply Kd.R_alloc | apply Kd.R_drewN | apply Kd.R_drew)); exact HO325.out))) (below_size (by repeat (first | (with_reducible first | exact HB.out | apply below_alloc | apply pw_below_drewN | apply below_drew1) | exact HB.out)))); have n5_ := Aside0.mk (below_step (by repeat (first | (with_reducible first | exact HB.out | apply below_alloc | apply pw_below_drewN | apply below_drew1) | exact HB.out)) hb); clear HO321; clear HO325; clear HO328; clear HO332; clear HB; have HO321 := n0_; have HO325 := n1_; have HO328 := n2_; have HO332 := n3_; have HO335 := n4_; have HB := n5_; clear n0_ n1_ n2_ n3_ n4_ n5_; (try clear hb); (try clear hb2); (try clear hk); (try clear hi); (try clear ho0); obtain ⟨Ao34, co34, eo34⟩ := Kd.V_slice HO332.out; subst eo34; obtain ⟨Ao35, co35, eo35⟩ := Kd.R_slice HO335.out; subst eo35) | ((with_reducible refine gate_callee (f := 17) rfl ?_); refine goesL_ (some 54) rfl rfl Try.func17 (by kernel_rfl) rfl #[.slice Ao34 t330.length co34, .slice Ao35 t333.length co35] rfl (by (try simp only [List.map_toArray, List.map_cons, List.map_nil]); first | done | rfl | (simp only [List.length_drop, List.length_take]; rfl)) ?_; (with_reducible refine (astrolabelaw01_digits.calls kj12 _ _ t330 _ _ t333 t336 _ ?side1 ?side2 ?side3 ?side4 A19.out).mono ?_); (case side1 => repeat (first | exact (Kd.V_reads' HO332.out).2.2 | (with_reducible refine Kd.C_alloc ?_ _) | (with_reducible refine Kd.C_drewN ?_ _) | (with_reducible refine Kd.C_drew ?_))); (case side2 => exact (Kd.V_reads' HO332.out).2.1); (case side3 => repeat (first | exact (Kd.R_reads' HO335.out).2.2 | (with_reducible refine Kd.C_alloc ?_ _) | (with_reducible refine Kd.C_drewN ?_ _) | (with_reducible refine Kd.C_drew ?_))); (case side4 => exact (Kd.R_reads' HO335.out).2.1); rintro e w' ⟨rfl, ⟨nd, rfl⟩⟩; refine ⟨_, rfl, ?_⟩; obtain ⟨Ao36, co36, eo36⟩ := Kd.V_slice HO328.out; subst eo36) | ((with_reducible refine gate_callee (f := 15) rfl ?_); refine goesL_ (some 58) rfl rfl Try.func15 (by kernel_rfl) rfl #[.slice A0 (l0.take ((ji6) : Int).toNat).length c0, .slice Ao36 t326.length co36] rfl (by (try simp only [List.map_toArray, List.map_cons, List.map_nil]); first | done | (rw [show (l0.take ((ji6) : Int).toNat).length = (ji6).toNat from (by rw [List.length_take]; have h_ : ((ji6) : Int) ≤ (l0.length : Int) := (by first | exact of_decide_eq_true (by first | (with_reducible assumption) | assumption) | (rw [← hji6]; unfold mn; split <;> omega)); omega)] <;> rfl) | (simp only [hji6]; rfl) | rfl | (simp only [List.length_drop, List.length_take]; rfl)) ?_; (with_reducible refine (nat_Mul.calls kj12 (fun k_ => k_ < w.heap.size) _ _ (l0.take ((ji6) : Int).toNat) (fun k_ => (True ∧ some k_ ≠ (.slice Ao35 t333.length co35 : Value).ownBlock)) _ _ t326 t337 _ ?side1 ?side2 A20.out).mono ?_); (case side1 => exact Kd.V_mk HC318.out (Kd.F_below (Kd.C_F (Kd.heap_int .u32) HR318.out) (by repeat (first | (with_reducible first | exact HB.out | apply below_alloc | apply pw_below_drewN | apply below_drew1) | exact HB.out)))); (case side2 => exact HO328.out); rintro e w37 ⟨v338, rfl, ho0, hb⟩; refine ⟨_, rfl, ?_⟩; have n0_ := Aside0.mk (Kd.V_below (by (with_reducible repeat (first | apply Kd.V_alloc | apply Kd.V_drewN | apply Kd.V_drew)); exact HO321.out) hb); have n1_ := Aside0.mk (Kd.R_below (by (with_reducible repeat (first | apply Kd.R_alloc | apply Kd.R_drewN | apply Kd.R_drew)); exact HO325.out) hb); have n2_ := Aside0.mk (Kd.V_below (by (with_reducible repeat (first | apply Kd.V_alloc | apply Kd.V_drewN | apply Kd.V_drew)); exact HO328.out) hb); have n3_ := Aside0.mk (Kd.V_below (by (with_reducible repeat (first | apply Kd.V_alloc | apply Kd.V_drewN | apply Kd.V_drew)); exact HO332.out) hb); have n4_ := Aside0.mk (Kd.R_below (by (with_reducible repeat (first | apply Kd.R_alloc | apply Kd.R_drewN | apply Kd.R_drew)); exact HO335.out) hb); have n5_ := Aside0.mk (Kd.V_lower (Kd.V_mono (ok' := fun k_ => some k_ ≠ (.slice Ao35 t333.length co35 : Value).ownBlock) ho0 (fun k_ hk_ => Or.elim hk_ (fun hs_ => Or.elim hs_ (fun hs_ => fun e_ => Nat.not_le.2 hs_ (Kd.R_base HO335.out k_ e_.symm)) (fun hs_ => hs_.2)) (fun hn_ => (Kd.fresh' (Kd.R_lt (by (with_reducible repeat (first | apply Kd.R_alloc | apply Kd.R_drewN | apply Kd.R_drew)); exact HO335.out)) k_ hn_)))) (below_size (by repeat (first | (with_reducible first | exact HB.out | apply below_alloc | apply pw_below_drewN | apply below_drew1) | exact HB.out)))); have n6_ := Aside0.mk (below_step (by repeat (first | (with_reducible first | exact HB.out | apply below_alloc | apply pw_below_drewN | apply below_drew1) | exact HB.out)) hb); clear HO321; clear HO325; clear HO328; clear HO332; clear HO335; clear HB; have HO321 := n0_; have HO325 := n1_; have HO328 := n2_; have HO332 := n3_; have HO335 := n4_; have HO339 := n5_; have HB := n6_; clear n0_ n1_ n2_ n3_ n4_ n5_ n6_; (try clear hb); (try clear hb2); (try clear hk); (try clear hi); (try clear ho0); obtain ⟨Ao38, co38, eo38⟩ := Kd.V_slice HO339.out; subst eo38) | ((with_reducible refine gate_callee (f := 17) rfl ?_); refine goesL_ (some 59) rfl rfl Try.func17 (by kernel_rfl) rfl #[.slice Ao31 t319.length co31, .slice Ao38 t337.length co38] rfl (by (try simp only [List.map_toArray, List.map_cons, List.map_nil]); first | done | rfl | (simp only [List.length_drop, List.length_take]; rfl)) ?_; (with_reducible refine (astrolabelaw01_digits.calls kj12 _ _ t319 _ _ t337 t340 _ ?side1 ?side2 ?side3 ?side4 A21.out).mono ?_); (case side1 => repeat (first | exact (Kd.V_reads' HO321.out).2.2 | (with_reducible refine Kd.C_alloc ?_ _) | (with_reducible refine Kd.C_drewN ?_ _) | (with_reducible refine Kd.C_drew ?_))); (case side2 => exact (Kd.V_reads' HO321.out).2.1); (case side3 => repeat (first | exact (Kd.V_reads' HO339.out).2.2 | (with_reducible refine Kd.C_alloc ?_ _) | (with_reducible refine Kd.C_drewN ?_ _) | (with_reducible refine Kd.C_drew ?_))); (case side4 => exact (Kd.V_reads' HO339.out).2.1); rintro e w' ⟨rfl, ⟨nd, rfl⟩⟩; refine ⟨_, rfl, ?_⟩) | ((with_reducible refine gate_callee (f := 16) rfl ?_); refine goesL_ (some 61) rfl rfl Try.func16 (by kernel_rfl) rfl #[.slice Ao31 t319.length co31] rfl (by (try simp only [List.map_toArray, List.map_cons, List.map_nil]); first | done | rfl | (simp only [List.length_drop, List.length_take]; rfl)) ?_; (with_reducible refine (nat_Bits.calls kj12 _ _ t319 t341 _ ?side1 ?side2 A22.out).mono ?_); (case side1 => repeat (first | exact (Kd.V_reads' HO321.out).2.2 | (with_reducible refine Kd.C_alloc ?_ _) | (with_reducible refine Kd.C_drewN ?_ _) | (with_reducible refine Kd.C_drew ?_))); (case side2 => exact (Kd.V_reads' HO321.out).2.1); rintro e w39 ⟨rfl, hb⟩; refine ⟨_, rfl, ?_⟩; have n0_ := Aside0.mk (Kd.V_below (by (with_reducible repeat (first | apply Kd.V_alloc | apply Kd.V_drewN | apply Kd.V_drew)); exact HO321.out) hb); have n1_ := Aside0.mk (Kd.R_below (by (with_reducible repeat (first | apply Kd.R_alloc | apply Kd.R_drewN | apply Kd.R_drew)); exact HO325.out) hb); have n2_ := Aside0.mk (Kd.V_below (by (with_reducible repeat (first | apply Kd.V_alloc | apply Kd.V_drewN | apply Kd.V_drew)); exact HO328.out) hb); have n3_ := Aside0.mk (Kd.V_below (by (with_reducible repeat (first | apply Kd.V_alloc | apply Kd.V_drewN | apply Kd.V_drew)); exact HO332.out) hb); have n4_ := Aside0.mk (Kd.R_below (by (with_reducible repeat (first | apply Kd.R_alloc | apply Kd.R_drewN | apply Kd.R_drew)); exact HO335.out) hb); have n5_ := Aside0.mk (Kd.V_below (by (with_reducible repeat (first | apply Kd.V_alloc | apply Kd.V_drewN | apply Kd.V_drew)); exact HO339.out) hb); have n6_ := Aside0.mk (below_step (by repeat (first | (with_reducible first | exact HB.out | apply below_alloc | apply pw_below_drewN | apply below_drew1) | exact HB.out)) hb); clear HO321; clear HO325; clear HO328; clear HO332; clear HO335; clear HO339; clear HB; have HO321 := n0_; have HO325 := n1_; have HO328 := n2_; have HO332 := n3_; have HO335 := n4_; have HO339 := n5_; have HB := n6_; clear n0_ n1_ n2_ n3_ n4_ n5_ n6_; (try clear hb); (try clear hb2); (try clear hk); (try clear hi)) | ((with_reducible refine gate_callee (f := 16) rfl ?_); refine goesL_ (some 63) rfl rfl Try.func16 (by kernel_rfl) rfl #[.slice A0 (l0.take ((ji6) : Int).toNat).length c0] rfl (by (try simp only [List.map_toArray, List.map_cons, List.map_nil]); first | done | (rw [show (l0.take ((ji6) : Int).toNat).length = (ji6).toNat from (by rw [List.length_take]; have h_ : ((ji6) : Int) ≤ (l0.length : Int) := (by first | exact of_decide_eq_true (by first | (with_reducible assumption) | assumption) | (rw [← hji6]; unfold mn; split <;> omega)); omega)] <;> rfl) | (simp only [hji6]; rfl) | rfl | (simp only [List.length_drop, List.length_take]; rfl)) ?_; (with_reducible refine (nat_Bits.calls kj12 _ _ (l0.take ((ji6) : Int).toNat) t342 _ ?side1 ?side2 A23.out).mono ?_); (case side1 => repeat (first | exact (Kd.C_below HR318.out HB.out) | (with_reducible refine Kd.C_alloc ?_ _) | (with_reducible refine Kd.C_drewN ?_ _) | (with_reducible refine Kd.C_drew ?_))); (case side2 => exact HC318.out); rintro e w40 ⟨rfl, hb⟩; refine ⟨_, rfl, ?_⟩; have n0_ := Aside0.mk (Kd.V_below (by (with_reducible repeat (first | apply Kd.V_alloc | apply Kd.V_drewN | apply Kd.V_drew)); exact HO321.out) hb); have n1_ := Aside0.mk (Kd.R_below (by (with_reducible repeat (first | apply Kd.R_alloc | apply Kd.R_drewN | apply Kd.R_drew)); exact HO325.out) hb); have n2_ := Aside0.mk (Kd.V_below (by (with_reducible repeat (first | apply Kd.V_alloc | apply Kd.V_drewN | apply Kd.V_drew)); exact HO328.out) hb); have n3_ := Aside0.mk (Kd.V_below (by (with_reducible repeat (first | apply Kd.V_alloc | apply Kd.V_drewN | apply Kd.V_drew)); exact HO332.out) hb); have n4_ := Aside0.mk (Kd.R_below (by (with_reducible repeat (first | apply Kd.R_alloc | apply Kd.R_drewN | apply Kd.R_drew)); exact HO335.out) hb); have n5_ := Aside0.mk (Kd.V_below (by (with_reducible repeat (first | apply Kd.V_alloc | apply Kd.V_drewN | apply Kd.V_drew)); exact HO339.out) hb); have n6_ := Aside0.mk (below_step (by repeat (first | (with_reducible first | exact HB.out | apply below_alloc | apply pw_below_drewN | apply below_drew1) | exact HB.out)) hb); clear HO321; clear HO325; clear HO328; clear HO332; clear HO335; clear HO339; clear HB; have HO321 := n0_; have HO325 := n1_; have HO328 := n2_; have HO332 := n3_; have HO335 := n4_; have HO339 := n5_; have HB := n6_; clear n0_ n1_ n2_ n3_ n4_ n5_ n6_; (try clear hb); (try clear hb2); (try clear hk); (try clear hi)) | ((with_reducible refine gate_callee (f := 16) rfl ?_); refine goesL_ (some 68) rfl rfl Try.func16 (by kernel_rfl) rfl #[.slice A0 (l0.take ((ji6) : Int).toNat).length c0] rfl (by (try simp only [List.map_toArray, List.map_cons, List.map_nil]); first | done | (rw [show (l0.take ((ji6) : Int).toNat).length = (ji6).toNat from (by rw [List.length_take]; have h_ : ((ji6) : Int) ≤ (l0.length : Int) := (by first | exact of_decide_eq_true (by first | (with_reducible assumption) | assumption) | (rw [← hji6]; unfold mn; split <;> omega)); omega)] <;> rfl) | (simp only [hji6]; rfl) | rfl | (simp only [List.length_drop, List.length_take]; rfl)) ?_; (with_reducible refine (nat_Bits.calls kj12 _ _ (l0.take ((ji6) : Int).toNat) t342 _ ?side1 ?side2 A24.out).mono ?_); (case side1 => repeat (first | exact (Kd.C_below HR318.out HB.out) | (with_reducible refine Kd.C_alloc ?_ _) | (with_reducible refine Kd.C_drewN ?_ _) | (with_reducible refine Kd.C_drew ?_))); (case side2 => exact HC318.out); rintro e w41 ⟨rfl, hb⟩; refine ⟨_, rfl, ?_⟩; have n0_ := Aside0.mk (Kd.V_below (by (with_reducible repeat (first | apply Kd.V_alloc | apply Kd.V_drewN | apply Kd.V_drew)); exact HO321.out) hb); have n1_ := Aside0.mk (Kd.R_below (by (with_reducible repeat (first | apply Kd.R_alloc | apply Kd.R_drewN | apply Kd.R_drew)); exact HO325.out) hb); have n2_ := Aside0.mk (Kd.V_below (by (with_reducible repeat (first | apply Kd.V_alloc | apply Kd.V_drewN | apply Kd.V_drew)); exact HO328.out) hb); have n3_ := Aside0.mk (Kd.V_below (by (with_reducible repeat (first | apply Kd.V_alloc | apply Kd.V_drewN | apply Kd.V_drew)); exact HO332.out) hb); have n4_ := Aside0.mk (Kd.R_below (by (with_reducible repeat (first | apply Kd.R_alloc | apply Kd.R_drewN | apply Kd.R_drew)); exact HO335.out) hb); have n5_ := Aside0.mk (Kd.V_below (by (with_reducible repeat (first | apply Kd.V_alloc | apply Kd.V_drewN | apply Kd.V_drew)); exact HO339.out) hb); have n6_ := Aside0.mk (below_step (by repeat (first | (with_reducible first | exact HB.out | apply below_alloc | apply pw_below_drewN | apply below_drew1) | exact HB.out)) hb); clear HO321; clear HO325; clear HO328; clear HO332; clear HO335; clear HO339; clear HB; have HO321 := n0_; have HO325 := n1_; have HO328 := n2_; have HO332 := n3_; have HO335 := n4_; have HO339 := n5_; have HB := n6_; clear n0_ n1_ n2_ n3_ n4_ n5_ n6_; (try clear hb); (try clear hb2); (try clear hk); (try clear hi)))
                (try simp only [Act.put, List.setIfInBounds_toArray, List.set_cons_zero, List.set_cons_succ])
                go_cut [14] (fun v14 wc => ∃ (kq : Nat) (x14_24 : Bool), v14 = .bool x14_24 ∧ Aside0 (astrolabelaw01_NatThere.j2 kq (l0.take ((ji6) : Int).toNat) (Int.tmod x1_8 3001) (Int.tmod x2_12 3001) true t319 t322 t329 t336 t340 x14_24 = some r) ∧ Aside0 (kq ≤ kj12) ∧ Aside0 (Kd.V (Kd.int .u32) 23 wc w.heap.size (fun _ => True) (.slice Ao31 t319.length co31) t319) ∧ Aside0 (Below w.heap.size w wc))
                case first =>
                  have H := HC25.out
                  clear HC25
                  by_cases c42 : t342 = 0
                  · rw [if_pos c42] at H
                    have c42b0 : (t342 == 0) = true := beq_iff_eq.mpr c42
                    have c42b1 : (t342 != 0) = false := bne_eq_false_iff_eq.mpr c42
                    clear c42
                    (first | rw [c42b0] | (simp only [i64_w, i32_w]; rw [c42b0]) | rw [c42b1] | skip)
                    replace H := Option.bind_eq_some_iff.mp H
                    obtain ⟨t344, A430, H⟩ := H
                    replace H : (astrolabelaw01_NatThere.j2 kj12 (l0.take ((ji6) : Int).toNat) (Int.tmod x1_8 3001) (Int.tmod x2_12 3001) true t319 t322 t329 t336 t340 (t344 == 0)) = some r := H
                    have A43 := Aside0.mk A430
                    clear A430
                    obtain rfl : t341 = t344 := Option.some.inj (A22.out.symm.trans A43.out)
                    have H' := Aside0.mk H
                    clear H
                    go_wp2_with (first | ((with_reducible refine gate_callee (f := 16) rfl ?_); refine goesL_ (some 71) rfl rfl Try.func16 (by kernel_rfl) rfl #[.slice Ao31 t319.length co31] rfl (by (try simp only [List.map_toArray, List.map_cons, List.map_nil]); first | done | rfl | (simp only [List.length_drop, List.length_take]; rfl)) ?_; (with_reducible refine (nat_Bits.calls kj12 _ _ t319 t341 _ ?side1 ?side2 A43.out).mono ?_); (case side1 => repeat (first | exact (Kd.V_reads' HO321.out).2.2 | (with_reducible refine Kd.C_alloc ?_ _) | (with_reducible refine Kd.C_drewN ?_ _) | (with_reducible refine Kd.C_drew ?_))); (case side2 => exact (Kd.V_reads' HO321.out).2.1); rintro e w44 ⟨rfl, hb⟩; refine ⟨_, rfl, ?_⟩; have n0_ := Aside0.mk (Kd.V_below (by (with_reducible repeat (first | apply Kd.V_alloc | apply Kd.V_drewN | apply Kd.V_drew)); exact HO321.out) hb); have n1_ := Aside0.mk (Kd.R_below (by (with_reducible repeat (first | apply Kd.R_alloc | apply Kd.R_drewN | apply Kd.R_drew)); exact HO325.out) hb); have n2_ := Aside0.mk (Kd.V_below (by (with_reducible repeat (first | apply Kd.V_alloc | apply Kd.V_drewN | apply Kd.V_drew)); exact HO328.out) hb); have n3_ := Aside0.mk (Kd.V_below (by (with_reducible repeat (first | apply Kd.V_alloc | apply Kd.V_drewN | apply Kd.V_drew)); exact HO332.out) hb); have n4_ := Aside0.mk (Kd.R_below (by (with_reducible repeat (first | apply Kd.R_alloc | apply Kd.R_drewN | apply Kd.R_drew)); exact HO335.out) hb); have n5_ := Aside0.mk (Kd.V_below (by (with_reducible repeat (first | apply Kd.V_alloc | apply Kd.V_drewN | apply Kd.V_drew)); exact HO339.out) hb); have n6_ := Aside0.mk (below_step (by repeat (first | (with_reducible first | exact HB.out | apply below_alloc | apply pw_below_drewN | apply below_drew1) | exact HB.out)) hb); clear HO321; clear HO325; clear HO328; clear HO332; clear HO335; clear HO339; clear HB; have HO321 := n0_; have HO325 := n1_; have HO328 := n2_; have HO332 := n3_; have HO335 := n4_; have HO339 := n5_; have HB := n6_; clear n0_ n1_ n2_ n3_ n4_ n5_ n6_; (try clear hb); (try clear hb2); (try clear hk); (try clear hi)))
                    go_meet
                    case rel => exact ⟨_, ((t341 == 0)), (by first | rfl | (simp; done) | (simp [*]; done)), H', ⟨by have := HJ8.out; have := HJ12.out; first | omega | exact Nat.le_refl _⟩, ⟨by (with_reducible repeat (first | apply Kd.V_alloc | apply Kd.V_drewN | apply Kd.V_drew)); exact Kd.V_mono HO321.out (fun _ hk => trivial)⟩, ⟨by repeat (first | (with_reducible first | exact HB.out | apply below_alloc | apply pw_below_drewN | apply below_drew1) | exact HB.out)⟩⟩
                  · rw [if_neg c42] at H
                    have c42b0 : (t342 == 0) = false := beq_eq_false_iff_ne.mpr c42
                    have c42b1 : (t342 != 0) = true := bne_iff_ne.mpr c42
                    (first | rw [c42b0] | (simp only [i64_w, i32_w]; rw [c42b0]) | rw [c42b1] | skip)
                    have H' := Aside0.mk H
                    clear H
                    go_wp2
                    go_meet
                    case rel => exact ⟨_, ((t341 == (wrap64 (t342 + (Int.tmod x1_8 3001))))), (by first | rfl | (simp; done) | (simp [*]; done)), H', ⟨by have := HJ8.out; have := HJ12.out; first | omega | exact Nat.le_refl _⟩, ⟨by (with_reducible repeat (first | apply Kd.V_alloc | apply Kd.V_drewN | apply Kd.V_drew)); exact Kd.V_mono HO321.out (fun _ hk => trivial)⟩, ⟨by repeat (first | (with_reducible first | exact HB.out | apply below_alloc | apply pw_below_drewN | apply below_drew1) | exact HB.out)⟩⟩
                case rest =>
                  clear HC25
                  try clear c1
                  try clear c2
                  try clear p2
                  try clear c4
                  try clear c5
                  try clear p6
                  try clear c7
                  try clear c7b0
                  try clear c7b1
                  try clear c8
                  try clear c8b0
                  try clear c8b1
                  try clear c11
                  try clear c12
                  try clear c12b0
                  try clear c12b1
                  try clear c14
                  try clear c14b0
                  try clear c14b1
                  try clear c15
                  try clear c16
                  try clear c17
                  try clear c18
                  try clear c19
                  try clear c20
                  try clear c42
                  try clear c42b0
                  try clear c42b1
                  try clear p2
                  try clear p6
                  obtain ⟨kq, x14_24, rfl, HA, HJ24, HO_8, HB⟩ := hcut
                  cases kq with
                  | zero => exact absurd HA.out (by simp [astrolabelaw01_NatThere.j2])
                  | succ kj24 =>
                    have H := HA.out
                    clear HA
                    simp only [astrolabelaw01_NatThere.j2] at H
                    replace H : (if t322 = true then (if t329 = true then (if t336 = true then (if t340 = true then (if x14_24 = true then ((nat_Bit.f t319 (wrap64 ((Int.tmod x2_12 3001) + (Int.tmod x1_8 3001)))).bind fun t345 => ((nat_Bit.f (l0.take ((ji6) : Int).toNat) (Int.tmod x2_12 3001)).bind fun t346 => (if (t345 == t346) = true then ((nat_Bits.f kj24 (l0.take ((ji6) : Int).toNat)).bind fun t347 => ((nat_Bit.f (l0.take ((ji6) : Int).toNat) (wrap64 (t347 + (Int.tmod x2_12 3001)))).bind fun t348 => (some (!t348)))) else (none)))) else (none)) else (none)) else (none)) else (none)) else (none)) = some r := by first | exact H | (rw [if_pos rfl] at H; exact H)
                    by_cases c45 : t322 = true
                    · subst c45
                      have H1 : (if t329 = true then (if t336 = true then (if t340 = true then (if x14_24 = true then ((nat_Bit.f t319 (wrap64 ((Int.tmod x2_12 3001) + (Int.tmod x1_8 3001)))).bind fun t345 => ((nat_Bit.f (l0.take ((ji6) : Int).toNat) (Int.tmod x2_12 3001)).bind fun t346 => (if (t345 == t346) = true then ((nat_Bits.f kj24 (l0.take ((ji6) : Int).toNat)).bind fun t347 => ((nat_Bit.f (l0.take ((ji6) : Int).toNat) (wrap64 (t347 + (Int.tmod x2_12 3001)))).bind fun t348 => (some (!t348)))) else (none)))) else (none)) else (none)) else (none)) else (none)) = some r := by rw [if_pos rfl] at H; exact H
                      clear H
                      have H := H1
                      clear H1
                      by_cases c46 : t329 = true
                      · subst c46
                        have H1 : (if t336 = true then (if t340 = true then (if x14_24 = true then ((nat_Bit.f t319 (wrap64 ((Int.tmod x2_12 3001) + (Int.tmod x1_8 3001)))).bind fun t345 => ((nat_Bit.f (l0.take ((ji6) : Int).toNat) (Int.tmod x2_12 3001)).bind fun t346 => (if (t345 == t346) = true then ((nat_Bits.f kj24 (l0.take ((ji6) : Int).toNat)).bind fun t347 => ((nat_Bit.f (l0.take ((ji6) : Int).toNat) (wrap64 (t347 + (Int.tmod x2_12 3001)))).bind fun t348 => (some (!t348)))) else (none)))) else (none)) else (none)) else (none)) = some r := by rw [if_pos rfl] at H; exact H
                        clear H
                        have H := H1
                        clear H1
                        by_cases c47 : t336 = true
                        · subst c47
                          have H1 : (if t340 = true then (if x14_24 = true then ((nat_Bit.f t319 (wrap64 ((Int.tmod x2_12 3001) + (Int.tmod x1_8 3001)))).bind fun t345 => ((nat_Bit.f (l0.take ((ji6) : Int).toNat) (Int.tmod x2_12 3001)).bind fun t346 => (if (t345 == t346) = true then ((nat_Bits.f kj24 (l0.take ((ji6) : Int).toNat)).bind fun t347 => ((nat_Bit.f (l0.take ((ji6) : Int).toNat) (wrap64 (t347 + (Int.tmod x2_12 3001)))).bind fun t348 => (some (!t348)))) else (none)))) else (none)) else (none)) = some r := by rw [if_pos rfl] at H; exact H
                          clear H
                          have H := H1
                          clear H1
                          by_cases c48 : t340 = true
                          · subst c48
                            have H1 : (if x14_24 = true then ((nat_Bit.f t319 (wrap64 ((Int.tmod x2_12 3001) + (Int.tmod x1_8 3001)))).bind fun t345 => ((nat_Bit.f (l0.take ((ji6) : Int).toNat) (Int.tmod x2_12 3001)).bind fun t346 => (if (t345 == t346) = true then ((nat_Bits.f kj24 (l0.take ((ji6) : Int).toNat)).bind fun t347 => ((nat_Bit.f (l0.take ((ji6) : Int).toNat) (wrap64 (t347 + (Int.tmod x2_12 3001)))).bind fun t348 => (some (!t348)))) else (none)))) else (none)) = some r := by rw [if_pos rfl] at H; exact H
                            clear H
                            have H := H1
                            clear H1
                            by_cases c49 : x14_24 = true
                            · subst c49
                              have H1 : ((nat_Bit.f t319 (wrap64 ((Int.tmod x2_12 3001) + (Int.tmod x1_8 3001)))).bind fun t345 => ((nat_Bit.f (l0.take ((ji6) : Int).toNat) (Int.tmod x2_12 3001)).bind fun t346 => (if (t345 == t346) = true then ((nat_Bits.f kj24 (l0.take ((ji6) : Int).toNat)).bind fun t347 => ((nat_Bit.f (l0.take ((ji6) : Int).toNat) (wrap64 (t347 + (Int.tmod x2_12 3001)))).bind fun t348 => (some (!t348)))) else (none)))) = some r := by rw [if_pos rfl] at H; exact H
                              clear H
                              have H := H1
                              clear H1
                              replace H := Option.bind_eq_some_iff.mp H
                              obtain ⟨t345, A500, H⟩ := H
                              replace H : ((nat_Bit.f (l0.take ((ji6) : Int).toNat) (Int.tmod x2_12 3001)).bind fun t346 => (if (t345 == t346) = true then ((nat_Bits.f kj24 (l0.take ((ji6) : Int).toNat)).bind fun t347 => ((nat_Bit.f (l0.take ((ji6) : Int).toNat) (wrap64 (t347 + (Int.tmod x2_12 3001)))).bind fun t348 => (some (!t348)))) else (none))) = some r := H
                              have A50 := Aside0.mk A500
                              clear A500
                              replace H := Option.bind_eq_some_iff.mp H
                              obtain ⟨t346, A510, H⟩ := H
                              replace H : (if (t345 == t346) = true then ((nat_Bits.f kj24 (l0.take ((ji6) : Int).toNat)).bind fun t347 => ((nat_Bit.f (l0.take ((ji6) : Int).toNat) (wrap64 (t347 + (Int.tmod x2_12 3001)))).bind fun t348 => (some (!t348)))) else (none)) = some r := H
                              have A51 := Aside0.mk A510
                              clear A510
                              by_cases c52 : (t345 == t346) = true
                              · rw [if_pos c52] at H
                                have c52b0 : (t345 == t346) = true := c52
                                (try (have c52b1 : decide (t345 = t346) = true := by simpa using c52))
                                (try (have c52b2 : (t345 == t346) = true := by simpa using c52))
                                clear c52
                                replace H := Option.bind_eq_some_iff.mp H
                                obtain ⟨t347, A530, H⟩ := H
                                replace H : ((nat_Bit.f (l0.take ((ji6) : Int).toNat) (wrap64 (t347 + (Int.tmod x2_12 3001)))).bind fun t348 => (some (!t348))) = some r := H
                                have A53 := Aside0.mk A530
                                clear A530
                                replace H := Option.bind_eq_some_iff.mp H
                                obtain ⟨t348, A540, H⟩ := H
                                replace H : (some (!t348)) = some r := H
                                have A54 := Aside0.mk A540
                                clear A540
                                obtain rfl := Option.some.inj H
                                go_wp2_with (first | (go_at_call 21; (with_reducible refine (nat_Bit.calls _ _ t319 (wrap64 ((Int.tmod x2_12 3001) + (Int.tmod x1_8 3001))) t345 _ ?side1 ?side2 A50.out).mono ?_); (case side1 => repeat (first | exact (Kd.V_reads' HO_8.out).2.2 | (with_reducible refine Kd.C_alloc ?_ _) | (with_reducible refine Kd.C_drewN ?_ _) | (with_reducible refine Kd.C_drew ?_))); (case side2 => exact (Kd.V_reads' HO_8.out).2.1); rintro e w' ⟨rfl, ⟨nd, rfl⟩⟩) | (go_at_call 21; refine calls_of_args (args' := #[.slice A0 (l0.take ((ji6) : Int).toNat).length c0, .int .i64 (Int.tmod x2_12 3001)]) (by first | (rw [show (l0.take ((ji6) : Int).toNat).length = (ji6).toNat from (by rw [List.length_take]; have h_ : ((ji6) : Int) ≤ (l0.length : Int) := (by first | exact of_decide_eq_true (by first | (with_reducible assumption) | assumption) | (rw [← hji6]; unfold mn; split <;> omega)); omega)] <;> rfl) | rfl) ?_; (with_reducible refine (nat_Bit.calls _ _ (l0.take ((ji6) : Int).toNat) (Int.tmod x2_12 3001) t346 _ ?side1 ?side2 A51.out).mono ?_); (case side1 => repeat (first | exact (Kd.C_below HR318.out (by repeat (first | (with_reducible first | exact HB.out | apply below_alloc | apply pw_below_drewN | apply below_drew1) | exact HB.out))) | (with_reducible refine Kd.C_alloc ?_ _) | (with_reducible refine Kd.C_drewN ?_ _) | (with_reducible refine Kd.C_drew ?_))); (case side2 => exact HC318.out); rintro e w' ⟨rfl, ⟨nd, rfl⟩⟩) | (go_at_call 16; refine calls_of_args (args' := #[.slice A0 (l0.take ((ji6) : Int).toNat).length c0]) (by first | (rw [show (l0.take ((ji6) : Int).toNat).length = (ji6).toNat from (by rw [List.length_take]; have h_ : ((ji6) : Int) ≤ (l0.length : Int) := (by first | exact of_decide_eq_true (by first | (with_reducible assumption) | assumption) | (rw [← hji6]; unfold mn; split <;> omega)); omega)] <;> rfl) | rfl) ?_; (with_reducible refine (nat_Bits.calls kj24 _ _ (l0.take ((ji6) : Int).toNat) t347 _ ?side1 ?side2 A53.out).mono ?_); (case side1 => repeat (first | exact (Kd.C_below HR318.out (by repeat (first | (with_reducible first | exact HB.out | apply below_alloc | apply pw_below_drewN | apply below_drew1) | exact HB.out))) | (with_reducible refine Kd.C_alloc ?_ _) | (with_reducible refine Kd.C_drewN ?_ _) | (with_reducible refine Kd.C_drew ?_))); (case side2 => exact HC318.out); rintro e w55 ⟨rfl, hb⟩; have n0_ := Aside0.mk (Kd.V_below (by (with_reducible repeat (first | apply Kd.V_alloc | apply Kd.V_drewN | apply Kd.V_drew)); exact HO_8.out) hb); have n1_ := Aside0.mk (below_step (by repeat (first | (with_reducible first | exact HB.out | apply below_alloc | apply pw_below_drewN | apply below_drew1) | exact HB.out)) hb); clear HO_8; clear HB; have HO_8 := n0_; have HB := n1_; clear n0_ n1_; (try clear hb); (try clear hb2); (try clear hk); (try clear hi)) | (go_at_call 21; refine calls_of_args (args' := #[.slice A0 (l0.take ((ji6) : Int).toNat).length c0, .int .i64 (wrap64 (t347 + (Int.tmod x2_12 3001)))]) (by first | (rw [show (l0.take ((ji6) : Int).toNat).length = (ji6).toNat from (by rw [List.length_take]; have h_ : ((ji6) : Int) ≤ (l0.length : Int) := (by first | exact of_decide_eq_true (by first | (with_reducible assumption) | assumption) | (rw [← hji6]; unfold mn; split <;> omega)); omega)] <;> rfl) | rfl) ?_; (with_reducible refine (nat_Bit.calls _ _ (l0.take ((ji6) : Int).toNat) (wrap64 (t347 + (Int.tmod x2_12 3001))) t348 _ ?side1 ?side2 A54.out).mono ?_); (case side1 => repeat (first | exact (Kd.C_below HR318.out HB.out) | (with_reducible refine Kd.C_alloc ?_ _) | (with_reducible refine Kd.C_drewN ?_ _) | (with_reducible refine Kd.C_drew ?_))); (case side2 => exact HC318.out); rintro e w' ⟨rfl, ⟨nd, rfl⟩⟩))
                                go_ret
                                exact ⟨by first | rfl | (simp [errW_none, errW_some] <;> rfl) | (simp only [← hji6]; first | rfl | (simp [errW_none, errW_some] <;> rfl)) | (simp [*, errW_none, errW_some] <;> rfl), by repeat (first | (with_reducible first | exact HB.out | apply below_alloc | apply pw_below_drewN | apply below_drew1) | exact HB.out)⟩
                              · rw [if_neg c52] at H
                                exact absurd H (by simp)
                            · replace c49 := Bool.eq_false_iff.mpr c49
                              subst c49
                              have H1 : (none) = some r := by rw [if_neg (show ¬ (false = true) by decide)] at H; exact H
                              clear H
                              have H := H1
                              clear H1
                              exact absurd H (by simp)
                          · replace c48 := Bool.eq_false_iff.mpr c48
                            subst c48
                            have H1 : (none) = some r := by rw [if_neg (show ¬ (false = true) by decide)] at H; exact H
                            clear H
                            have H := H1
                            clear H1
                            exact absurd H (by simp)
                        · replace c47 := Bool.eq_false_iff.mpr c47
                          subst c47
                          have H1 : (none) = some r := by rw [if_neg (show ¬ (false = true) by decide)] at H; exact H
                          clear H
                          have H := H1
                          clear H1
                          exact absurd H (by simp)
                      · replace c46 := Bool.eq_false_iff.mpr c46
                        subst c46
                        have H1 : (none) = some r := by rw [if_neg (show ¬ (false = true) by decide)] at H; exact H
                        clear H
                        have H := H1
                        clear H1
                        exact absurd H (by simp)
                    · replace c45 := Bool.eq_false_iff.mpr c45
                      subst c45
                      have H1 : (none) = some r := by rw [if_neg (show ¬ (false = true) by decide)] at H; exact H
                      clear H
                      have H := H1
                      clear H1
                      exact absurd H (by simp)
      · rw [if_neg c8] at H
        exact absurd H (by simp)
    · rw [if_neg c7] at H
      exact absurd H (by simp)
  · replace c5 := Bool.eq_false_iff.mpr c5
    subst c5
    have H1 : (none) = some r := by rw [if_neg (show ¬ (false = true) by decide)] at H; exact H
    clear H
    have H := H1
    clear H1
    exact absurd H (by simp)

/-- THE ONE PURE STATEMENT of astrolabelaw01_NatThere: yours. -/
def astrolabelaw01_NatThere.Pure : Prop := ∀ (l0 : List Int) (a1 : Int) (a2 : Int), l0.length ≤ maxLen → l0.length * 4 ≤ 140737488351232 → (∀ x ∈ l0, (Lit.int .u32 x).wf = true) → (Lit.int .i64 a1).wf = true → (Lit.int .i64 a2).wf = true → ∃ k, astrolabelaw01_NatThere.f k l0 a1 a2 = some true
theorem astrolabelaw01_NatThere.walk (P : astrolabelaw01_NatThere.Pure) (a0 : Option Addr) (len0 cap0 : Nat) (z0 : List Int) (a1 : Int) (a2 : Int) (w : World) (w0 : (a0 = none ∧ len0 = 0 ∧ cap0 = 0 ∧ z0 = []) ∨ ∃ x, a0 = some x ∧ len0 ≤ cap0 ∧ cap0 ≤ maxLen ∧ z0.length = cap0 ∧ (∀ i, i < z0.length → w.cell? (x.add i) = some (.int .u32 (z0.getD i 0))) ∧ ∀ n ∈ z0, (Lit.int .u32 n).wf = true) (y0 : len0 * 4 ≤ 140737488351232) (w1 : (Lit.int .i64 a1).wf = true) (w2 : (Lit.int .i64 a2).wf = true) :
    Calls Try.prog 5 #[.slice a0 len0 cap0, .int .i64 a1, .int .i64 a2] w fun e w' => e = .returned (.bool true) ∧ Below w.heap.size w w' := by
  obtain ⟨l0, rfl, hr0, hm0, hw0, hc0⟩ := ReadsInt.ofRowC w0
  obtain ⟨k, h⟩ := P l0 a1 a2 hm0 y0 hw0 w1 w2
  refine (astrolabelaw01_NatThere.calls k _ _ l0 a1 a2 true w (Kd.C_of_reads (d := (0 : Int)) (h1 := fun _ => rfl) hr0) hc0 h).mono ?_
  rintro e w' ⟨rfl, hd⟩
  exact ⟨rfl, hd⟩

end Go.Proofs.Ytmkffnhgcpdbaaa.P
