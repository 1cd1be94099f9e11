/- What the Go functions of these names come to, as plain Lean functions, and the walks that show it. Written for this claim by a turned copy of the print program; Lean checks it. -/
import Derived.Test.YtmkffnhgcpdbaaaP0
import Derived.Test.YtmkffnhgcpdbaaaP1
import Derived.Test.YtmkffnhgcpdbaaaP2
import Derived.Test.YtmkffnhgcpdbaaaP3
import Derived.Test.YtmkffnhgcpdbaaaP4
import Derived.Test.YtmkffnhgcpdbaaaP8
namespace Go.Proofs.Ytmkffnhgcpdbaaa.P
open Go.RowKit Go.Proofs.YtmkffnhgcpdbaaaW.PrintWords Go.Proofs.YtmkffnhgcpdbaaaW.PrintLast Go.Proofs.YtmkffnhgcpdbaaaW.PrintMore
attribute [local go_sem] max2_int min2_int max_two min_two max_three min_three max_four min_four   -- for this text's walks alone
set_option linter.unusedVariables false
set_option linter.unusedSimpArgs false

/-! ### astrolabelaw01_NatDoubles: function 10 -/
def astrolabelaw01_NatDoubles.j0 : Nat → List Int → Int → Bool → Option (Bool)
  | 0, _, _, _ => none
  | k + 1, x0, x1, x5 => (nat_Shl.f k x0 1).bind fun bt584 => ((nat_Add.f k x0 x0).bind fun t588 => ((astrolabelaw01_digits.f k t588 bt584.1).bind fun t591 => ((nat_Shr.f k x0 (Int.tmod x1 601)).bind fun t592 => ((nat_Shl.f k t592 (Int.tmod x1 601)).bind fun bt595 => ((nat_Sub.f k x0 bt595.1).bind fun bt599 => ((nat_From.f k 3).bind fun t603 => ((nat_Mul.f k x0 t603).bind fun t606 => ((nat_Add.f k bt584.1 x0).bind fun t609 => ((astrolabelaw01_digits.f k t606 t609).bind fun t612 => (if x5 = true then (if bt584.2 = true then (if t591 = true then (if bt595.2 = true then (if bt599.2 = true then ((nat_Bits.f k bt599.1).bind fun t613 => (if t613 ≤ (Int.tmod x1 601) then (some t612) else (none))) else (none)) else (none)) else (none)) else (none)) else (none)))))))))))
def astrolabelaw01_NatDoubles.f (k : Nat) (l0 : List Int) (a1 : Int) : Option (Bool) := (astrolabelaw01_examples.f k).bind fun t582 => (if t582 = true then (if 0 ≤ (mn (l0.length : Int) 40) then (if (mn (l0.length : Int) 40) ≤ (l0.length : Int) then (if a1 < 0 then (astrolabelaw01_NatDoubles.j0 k (l0.take ((mn (l0.length : Int) 40) : Int).toNat) (wrap64 (-(wrap64 (a1 + 1)))) t582) else (astrolabelaw01_NatDoubles.j0 k (l0.take ((mn (l0.length : Int) 40) : Int).toNat) a1 t582)) else (none)) else (none)) else (none))
theorem astrolabelaw01_NatDoubles.mono_l : ∀ k, (∀ y0 y1 y2, LeO (astrolabelaw01_NatDoubles.j0 k y0 y1 y2) (astrolabelaw01_NatDoubles.j0 (k + 1) y0 y1 y2))
  | 0 => fun _ _ _ r h => by simp [astrolabelaw01_NatDoubles.j0] at h
  | k + 1 => by
    have ih0 := astrolabelaw01_NatDoubles.mono_l k
    · intro y0 y1 y2
      unfold astrolabelaw01_NatDoubles.j0
      repeat' first
      | (with_reducible exact ih0 _ _ _)
      | (with_reducible exact astrolabelaw01_digits.mono _ _ _)
      | (with_reducible exact astrolabelaw01_examples.mono _)
      | (with_reducible exact nat_Add.mono _ _ _)
      | (with_reducible exact nat_Bits.mono _ _)
      | (with_reducible exact nat_From.mono _ _)
      | (with_reducible exact nat_Mul.mono _ _ _)
      | (with_reducible exact nat_Shl.mono _ _ _)
      | (with_reducible exact nat_Shr.mono _ _ _)
      | (with_reducible exact nat_Sub.mono _ _ _)
      | (with_reducible exact LeO.refl _)
      | (with_reducible exact LeO.none _)
      | (with_reducible refine LeO.ite ?_ ?_)
      | (with_reducible refine LeO.bind ?_ (fun _ => ?_))
      | exact ih0 _ _ _
      | exact astrolabelaw01_digits.mono _ _ _
      | exact astrolabelaw01_examples.mono _
      | exact nat_Add.mono _ _ _
      | exact nat_Bits.mono _ _
      | exact nat_From.mono _ _
      | exact nat_Mul.mono _ _ _
      | exact nat_Shl.mono _ _ _
      | exact nat_Shr.mono _ _ _
      | exact nat_Sub.mono _ _ _
      | exact LeO.none _
      | refine LeO.ite ?_ ?_
      | refine LeO.bind ?_ (fun _ => ?_)
theorem astrolabelaw01_NatDoubles.mono : ∀ a0 a1 k, LeO (astrolabelaw01_NatDoubles.f k a0 a1) (astrolabelaw01_NatDoubles.f (k + 1) a0 a1) := by
  intro a0 a1 k
  have ih0 := astrolabelaw01_NatDoubles.mono_l k
  unfold astrolabelaw01_NatDoubles.f
  repeat' first
      | (with_reducible exact ih0 _ _ _)
      | (with_reducible exact astrolabelaw01_digits.mono _ _ _)
      | (with_reducible exact astrolabelaw01_examples.mono _)
      | (with_reducible exact nat_Add.mono _ _ _)
      | (with_reducible exact nat_Bits.mono _ _)
      | (with_reducible exact nat_From.mono _ _)
      | (with_reducible exact nat_Mul.mono _ _ _)
      | (with_reducible exact nat_Shl.mono _ _ _)
      | (with_reducible exact nat_Shr.mono _ _ _)
      | (with_reducible exact nat_Sub.mono _ _ _)
      | (with_reducible exact LeO.refl _)
      | (with_reducible exact LeO.none _)
      | (with_reducible refine LeO.ite ?_ ?_)
      | (with_reducible refine LeO.bind ?_ (fun _ => ?_))
      | exact ih0 _ _ _
      | exact astrolabelaw01_digits.mono _ _ _
      | exact astrolabelaw01_examples.mono _
      | exact nat_Add.mono _ _ _
      | exact nat_Bits.mono _ _
      | exact nat_From.mono _ _
      | exact nat_Mul.mono _ _ _
      | exact nat_Shl.mono _ _ _
      | exact nat_Shr.mono _ _ _
      | exact nat_Sub.mono _ _ _
      | exact LeO.none _
      | refine LeO.ite ?_ ?_
      | refine LeO.bind ?_ (fun _ => ?_)
set_option maxHeartbeats 8000000 in
set_option maxRecDepth 100000 in
theorem astrolabelaw01_NatDoubles.calls (k : Nat) (A0 : Option Addr) (c0 : Nat) (l0 : List Int) (a1 : Int) (r : Bool) (w : World) (hr0 : Kd.C (Kd.int .u32) w A0 l0.length l0) (hc0 : l0.length ≤ c0) (h : astrolabelaw01_NatDoubles.f k l0 a1 = some r) :
    Calls Try.prog 10 #[.slice A0 l0.length c0, .int .i64 a1] w fun e w' => e = .returned (.bool r) ∧ Below w.heap.size w w' := by
  have HR0 := Aside0.mk hr0
  have HC0 := Aside0.mk hc0
  clear hr0 hc0
  have HB := Aside0.mk (Below.refl w.heap.size w)
  have H : ((astrolabelaw01_examples.f k).bind fun t582 => (if t582 = true then (if 0 ≤ (mn (l0.length : Int) 40) then (if (mn (l0.length : Int) 40) ≤ (l0.length : Int) then (if a1 < 0 then (astrolabelaw01_NatDoubles.j0 k (l0.take ((mn (l0.length : Int) 40) : Int).toNat) (wrap64 (-(wrap64 (a1 + 1)))) t582) else (astrolabelaw01_NatDoubles.j0 k (l0.take ((mn (l0.length : Int) 40) : Int).toNat) a1 t582)) else (none)) else (none)) else (none))) = some r := h
  clear h
  replace H := Option.bind_eq_some_iff.mp H
  obtain ⟨t582, A30, H⟩ := H
  replace H : (if t582 = true then (if 0 ≤ (mn (l0.length : Int) 40) then (if (mn (l0.length : Int) 40) ≤ (l0.length : Int) then (if a1 < 0 then (astrolabelaw01_NatDoubles.j0 k (l0.take ((mn (l0.length : Int) 40) : Int).toNat) (wrap64 (-(wrap64 (a1 + 1)))) t582) else (astrolabelaw01_NatDoubles.j0 k (l0.take ((mn (l0.length : Int) 40) : Int).toNat) a1 t582)) else (none)) else (none)) else (none)) = some r := H
  have A3 := Aside0.mk A30
  clear A30
  by_cases c4 : t582 = true
  · subst c4
    have H1 : (if 0 ≤ (mn (l0.length : Int) 40) then (if (mn (l0.length : Int) 40) ≤ (l0.length : Int) then (if a1 < 0 then (astrolabelaw01_NatDoubles.j0 k (l0.take ((mn (l0.length : Int) 40) : Int).toNat) (wrap64 (-(wrap64 (a1 + 1)))) true) else (astrolabelaw01_NatDoubles.j0 k (l0.take ((mn (l0.length : Int) 40) : Int).toNat) a1 true)) else (none)) else (none)) = some r := by rw [if_pos rfl] at H; exact H
    clear H
    have H := H1
    clear H1
    obtain ⟨ji5, hji5⟩ : ∃ j_ : Int, (mn (l0.length : Int) 40) = j_ := ⟨_, rfl⟩
    replace H : (if 0 ≤ (ji5) then (if (ji5) ≤ (l0.length : Int) then (if a1 < 0 then (astrolabelaw01_NatDoubles.j0 k (l0.take ((ji5) : Int).toNat) (wrap64 (-(wrap64 (a1 + 1)))) true) else (astrolabelaw01_NatDoubles.j0 k (l0.take ((ji5) : Int).toNat) a1 true)) else (none)) else (none)) = some r := by first | (rw [hji5] at H; exact H) | (simp only [hji5] at H ⊢; exact H)
    (try rw [hji5] at A3)
    (try (have hji5h : ji5 ≤ 40 := by (rw [← hji5]; unfold mn; (repeat' split) <;> omega)))
    (try (have hji5g : ji5 ≤ 64 := by omega))
    (try (have hji5l : 0 ≤ ji5 := by (rw [← hji5]; unfold mn; (repeat' split) <;> omega)))
    (try (have hji5m : 0 ≤ ji5 := by omega))
    have hji5_ : (if 40 < (l0.length : Int) then 40 else (l0.length : Int)) = ji5 := hji5
    by_cases c6 : 0 ≤ (ji5)
    · rw [if_pos c6] at H
      have c6b0 := eq_true c6
      have c6b1 : decide (0 ≤ (ji5)) = true := decide_eq_true c6
      clear c6
      by_cases c7 : (ji5) ≤ (l0.length : Int)
      · rw [if_pos c7] at H
        have c7b0 := eq_true c7
        have c7b1 : decide ((ji5) ≤ (l0.length : Int)) = true := decide_eq_true c7
        clear c7
        have HC8 := Aside0.mk H
        clear H
        go_enter Try.func10, Try.ntmps10
        go_upto_if 23 with (first | ((with_reducible refine gate_callee (f := 11) rfl ?_); refine goesL_ (some 14) rfl rfl Try.func11 (by kernel_rfl) rfl #[] rfl (by (try simp only [List.map_toArray, List.map_cons, List.map_nil]); first | done | rfl | (simp only [List.length_drop, List.length_take]; rfl)) ?_; (with_reducible refine (astrolabelaw01_examples.calls k  true _ A3.out).mono ?_); rintro e w9 ⟨rfl, hb⟩; refine ⟨_, rfl, ?_⟩; have n0_ := Aside0.mk (below_step (by repeat (first | (with_reducible first | exact HB.out | apply below_alloc | apply pw_below_drewN | apply below_drew1) | exact HB.out)) hb); clear HB; have HB := n0_; clear n0_; (try clear hb); (try clear hb2); (try clear hk); (try clear hi); obtain ⟨i010, hi010, _, hsz10, _⟩ := info_parts info23; obtain ⟨hcut10, hA10, hC10⟩ := print_take_of (P := Try.prog) (Value.int .u32) 0 27 23 .i64 Try.underlying27 hi010 hsz10 A0 c0 l0 (ji5) (of_decide_eq_true (by first | (with_reducible assumption) | assumption)) (of_decide_eq_true (by first | (with_reducible assumption) | assumption)) HC0.out; have HR583 := Aside0.mk (Kd.C_of_reads (h1 := fun _ => rfl) (hA10 _ (Kd.reads_of_C HR0.out))); have HC583 := Aside0.mk hC10; clear hA10 hC10 hi010 hsz10))
        (try simp only [Act.put, List.setIfInBounds_toArray, List.set_cons_zero, List.set_cons_succ])
        go_cut [1] (fun v1 wc => ∃ (kq : Nat) (x1_7 : Int), v1 = .int .i64 x1_7 ∧ Aside0 (astrolabelaw01_NatDoubles.j0 kq (l0.take ((ji5) : Int).toNat) x1_7 true = some r) ∧ Aside0 (kq ≤ k) ∧ Aside0 (Below w.heap.size w wc))
        case first =>
          have H := HC8.out
          clear HC8
          by_cases c11 : a1 < 0
          · rw [if_pos c11] at H
            have c11b0 : decide (a1 < 0) = true := decide_eq_true c11
            clear c11
            (first | rw [c11b0] | (simp only [i64_w, i32_w]; rw [c11b0]) | rw [c11b1] | skip)
            have H' := Aside0.mk H
            clear H
            go_wp2
            go_meet
            case rel => exact ⟨_, (wrap64 (-(wrap64 (a1 + 1)))), (by first | rfl | (simp; done) | (simp [*]; done)), H', ⟨by first | omega | exact Nat.le_refl _⟩, ⟨by repeat (first | (with_reducible first | exact HB.out | apply below_alloc | apply pw_below_drewN | apply below_drew1) | exact HB.out)⟩⟩
          · rw [if_neg c11] at H
            have c11b0 : decide (a1 < 0) = false := decide_eq_false c11
            clear c11
            (first | rw [c11b0] | (simp only [i64_w, i32_w]; rw [c11b0]) | rw [c11b1] | skip)
            have H' := Aside0.mk H
            clear H
            go_wp2
            go_meet
            case rel => exact ⟨_, (a1), (by first | rfl | (simp; done) | (simp [*]; done)), H', ⟨by first | omega | exact Nat.le_refl _⟩, ⟨by repeat (first | (with_reducible first | exact HB.out | apply below_alloc | apply pw_below_drewN | apply below_drew1) | exact HB.out)⟩⟩
        case rest =>
          clear HC8
          try clear c1
          try clear p2
          try clear c4
          try clear c6
          try clear c6b0
          try clear c6b1
          try clear p6
          try clear c7
          try clear c7b0
          try clear c7b1
          try clear c10
          try clear c11
          try clear c11b0
          try clear c11b1
          obtain ⟨kq, x1_7, rfl, HA, HJ7, HB⟩ := hcut
          cases kq with
          | zero => exact absurd HA.out (by simp [astrolabelaw01_NatDoubles.j0])
          | succ kj7 =>
            have H := HA.out
            clear HA
            simp only [astrolabelaw01_NatDoubles.j0] at H
            replace H := Option.bind_eq_some_iff.mp H
            obtain ⟨⟨t584, t587⟩, A120, H⟩ := H
            replace H : ((nat_Add.f kj7 (l0.take ((ji5) : Int).toNat) (l0.take ((ji5) : Int).toNat)).bind fun t588 => ((astrolabelaw01_digits.f kj7 t588 t584).bind fun t591 => ((nat_Shr.f kj7 (l0.take ((ji5) : Int).toNat) (Int.tmod x1_7 601)).bind fun t592 => ((nat_Shl.f kj7 t592 (Int.tmod x1_7 601)).bind fun bt595 => ((nat_Sub.f kj7 (l0.take ((ji5) : Int).toNat) bt595.1).bind fun bt599 => ((nat_From.f kj7 3).bind fun t603 => ((nat_Mul.f kj7 (l0.take ((ji5) : Int).toNat) t603).bind fun t606 => ((nat_Add.f kj7 t584 (l0.take ((ji5) : Int).toNat)).bind fun t609 => ((astrolabelaw01_digits.f kj7 t606 t609).bind fun t612 => (if true = true then (if t587 = true then (if t591 = true then (if bt595.2 = true then (if bt599.2 = true then ((nat_Bits.f kj7 bt599.1).bind fun t613 => (if t613 ≤ (Int.tmod x1_7 601) then (some t612) else (none))) else (none)) else (none)) else (none)) else (none)) else (none))))))))))) = some r := H
            have A12 := Aside0.mk A120
            clear A120
            replace H := Option.bind_eq_some_iff.mp H
            obtain ⟨t588, A130, H⟩ := H
            replace H : ((astrolabelaw01_digits.f kj7 t588 t584).bind fun t591 => ((nat_Shr.f kj7 (l0.take ((ji5) : Int).toNat) (Int.tmod x1_7 601)).bind fun t592 => ((nat_Shl.f kj7 t592 (Int.tmod x1_7 601)).bind fun bt595 => ((nat_Sub.f kj7 (l0.take ((ji5) : Int).toNat) bt595.1).bind fun bt599 => ((nat_From.f kj7 3).bind fun t603 => ((nat_Mul.f kj7 (l0.take ((ji5) : Int).toNat) t603).bind fun t606 => ((nat_Add.f kj7 t584 (l0.take ((ji5) : Int).toNat)).bind fun t609 => ((astrolabelaw01_digits.f kj7 t606 t609).bind fun t612 => (if true = true then (if t587 = true then (if t591 = true then (if bt595.2 = true then (if bt599.2 = true then ((nat_Bits.f kj7 bt599.1).bind fun t613 => (if t613 ≤ (Int.tmod x1_7 601) then (some t612) else (none))) else (none)) else (none)) else (none)) else (none)) else (none)))))))))) = some r := H
            have A13 := Aside0.mk A130
            clear A130
            replace H := Option.bind_eq_some_iff.mp H
            obtain ⟨t591, A140, H⟩ := H
            replace H : ((nat_Shr.f kj7 (l0.take ((ji5) : Int).toNat) (Int.tmod x1_7 601)).bind fun t592 => ((nat_Shl.f kj7 t592 (Int.tmod x1_7 601)).bind fun bt595 => ((nat_Sub.f kj7 (l0.take ((ji5) : Int).toNat) bt595.1).bind fun bt599 => ((nat_From.f kj7 3).bind fun t603 => ((nat_Mul.f kj7 (l0.take ((ji5) : Int).toNat) t603).bind fun t606 => ((nat_Add.f kj7 t584 (l0.take ((ji5) : Int).toNat)).bind fun t609 => ((astrolabelaw01_digits.f kj7 t606 t609).bind fun t612 => (if true = true then (if t587 = true then (if t591 = true then (if bt595.2 = true then (if bt599.2 = true then ((nat_Bits.f kj7 bt599.1).bind fun t613 => (if t613 ≤ (Int.tmod x1_7 601) then (some t612) else (none))) else (none)) else (none)) else (none)) else (none)) else (none))))))))) = some r := H
            have A14 := Aside0.mk A140
            clear A140
            replace H := Option.bind_eq_some_iff.mp H
            obtain ⟨t592, A150, H⟩ := H
            replace H : ((nat_Shl.f kj7 t592 (Int.tmod x1_7 601)).bind fun bt595 => ((nat_Sub.f kj7 (l0.take ((ji5) : Int).toNat) bt595.1).bind fun bt599 => ((nat_From.f kj7 3).bind fun t603 => ((nat_Mul.f kj7 (l0.take ((ji5) : Int).toNat) t603).bind fun t606 => ((nat_Add.f kj7 t584 (l0.take ((ji5) : Int).toNat)).bind fun t609 => ((astrolabelaw01_digits.f kj7 t606 t609).bind fun t612 => (if true = true then (if t587 = true then (if t591 = true then (if bt595.2 = true then (if bt599.2 = true then ((nat_Bits.f kj7 bt599.1).bind fun t613 => (if t613 ≤ (Int.tmod x1_7 601) then (some t612) else (none))) else (none)) else (none)) else (none)) else (none)) else (none)))))))) = some r := H
            have A15 := Aside0.mk A150
            clear A150
            replace H := Option.bind_eq_some_iff.mp H
            obtain ⟨⟨t595, t598⟩, A160, H⟩ := H
            replace H : ((nat_Sub.f kj7 (l0.take ((ji5) : Int).toNat) t595).bind fun bt599 => ((nat_From.f kj7 3).bind fun t603 => ((nat_Mul.f kj7 (l0.take ((ji5) : Int).toNat) t603).bind fun t606 => ((nat_Add.f kj7 t584 (l0.take ((ji5) : Int).toNat)).bind fun t609 => ((astrolabelaw01_digits.f kj7 t606 t609).bind fun t612 => (if true = true then (if t587 = true then (if t591 = true then (if t598 = true then (if bt599.2 = true then ((nat_Bits.f kj7 bt599.1).bind fun t613 => (if t613 ≤ (Int.tmod x1_7 601) then (some t612) else (none))) else (none)) else (none)) else (none)) else (none)) else (none))))))) = some r := H
            have A16 := Aside0.mk A160
            clear A160
            replace H := Option.bind_eq_some_iff.mp H
            obtain ⟨⟨t599, t602⟩, A170, H⟩ := H
            replace H : ((nat_From.f kj7 3).bind fun t603 => ((nat_Mul.f kj7 (l0.take ((ji5) : Int).toNat) t603).bind fun t606 => ((nat_Add.f kj7 t584 (l0.take ((ji5) : Int).toNat)).bind fun t609 => ((astrolabelaw01_digits.f kj7 t606 t609).bind fun t612 => (if true = true then (if t587 = true then (if t591 = true then (if t598 = true then (if t602 = true then ((nat_Bits.f kj7 t599).bind fun t613 => (if t613 ≤ (Int.tmod x1_7 601) then (some t612) else (none))) else (none)) else (none)) else (none)) else (none)) else (none)))))) = some r := H
            have A17 := Aside0.mk A170
            clear A170
            replace H := Option.bind_eq_some_iff.mp H
            obtain ⟨t603, A180, H⟩ := H
            replace H : ((nat_Mul.f kj7 (l0.take ((ji5) : Int).toNat) t603).bind fun t606 => ((nat_Add.f kj7 t584 (l0.take ((ji5) : Int).toNat)).bind fun t609 => ((astrolabelaw01_digits.f kj7 t606 t609).bind fun t612 => (if true = true then (if t587 = true then (if t591 = true then (if t598 = true then (if t602 = true then ((nat_Bits.f kj7 t599).bind fun t613 => (if t613 ≤ (Int.tmod x1_7 601) then (some t612) else (none))) else (none)) else (none)) else (none)) else (none)) else (none))))) = some r := H
            have A18 := Aside0.mk A180
            clear A180
            replace H := Option.bind_eq_some_iff.mp H
            obtain ⟨t606, A190, H⟩ := H
            replace H : ((nat_Add.f kj7 t584 (l0.take ((ji5) : Int).toNat)).bind fun t609 => ((astrolabelaw01_digits.f kj7 t606 t609).bind fun t612 => (if true = true then (if t587 = true then (if t591 = true then (if t598 = true then (if t602 = true then ((nat_Bits.f kj7 t599).bind fun t613 => (if t613 ≤ (Int.tmod x1_7 601) then (some t612) else (none))) else (none)) else (none)) else (none)) else (none)) else (none)))) = some r := H
            have A19 := Aside0.mk A190
            clear A190
            replace H := Option.bind_eq_some_iff.mp H
            obtain ⟨t609, A200, H⟩ := H
            replace H : ((astrolabelaw01_digits.f kj7 t606 t609).bind fun t612 => (if true = true then (if t587 = true then (if t591 = true then (if t598 = true then (if t602 = true then ((nat_Bits.f kj7 t599).bind fun t613 => (if t613 ≤ (Int.tmod x1_7 601) then (some t612) else (none))) else (none)) else (none)) else (none)) else (none)) else (none))) = some r := H
            have A20 := Aside0.mk A200
            clear A200
            replace H := Option.bind_eq_some_iff.mp H
            obtain ⟨t612, A210, H⟩ := H
            replace H : (if true = true then (if t587 = true then (if t591 = true then (if t598 = true then (if t602 = true then ((nat_Bits.f kj7 t599).bind fun t613 => (if t613 ≤ (Int.tmod x1_7 601) then (some t612) else (none))) else (none)) else (none)) else (none)) else (none)) else (none)) = some r := H
            have A21 := Aside0.mk A210
            clear A210
            replace H : (if t587 = true then (if t591 = true then (if t598 = true then (if t602 = true then ((nat_Bits.f kj7 t599).bind fun t613 => (if t613 ≤ (Int.tmod x1_7 601) then (some t612) else (none))) else (none)) else (none)) else (none)) else (none)) = some r := by first | exact H | (rw [if_pos rfl] at H; exact H)
            by_cases c22 : t587 = true
            · subst c22
              have H1 : (if t591 = true then (if t598 = true then (if t602 = true then ((nat_Bits.f kj7 t599).bind fun t613 => (if t613 ≤ (Int.tmod x1_7 601) then (some t612) else (none))) else (none)) else (none)) else (none)) = some r := by rw [if_pos rfl] at H; exact H
              clear H
              have H := H1
              clear H1
              by_cases c23 : t591 = true
              · subst c23
                have H1 : (if t598 = true then (if t602 = true then ((nat_Bits.f kj7 t599).bind fun t613 => (if t613 ≤ (Int.tmod x1_7 601) then (some t612) else (none))) else (none)) else (none)) = some r := by rw [if_pos rfl] at H; exact H
                clear H
                have H := H1
                clear H1
                by_cases c24 : t598 = true
                · subst c24
                  have H1 : (if t602 = true then ((nat_Bits.f kj7 t599).bind fun t613 => (if t613 ≤ (Int.tmod x1_7 601) then (some t612) else (none))) else (none)) = some r := by rw [if_pos rfl] at H; exact H
                  clear H
                  have H := H1
                  clear H1
                  by_cases c25 : t602 = true
                  · subst c25
                    have H1 : ((nat_Bits.f kj7 t599).bind fun t613 => (if t613 ≤ (Int.tmod x1_7 601) then (some t612) else (none))) = some r := by rw [if_pos rfl] at H; exact H
                    clear H
                    have H := H1
                    clear H1
                    replace H := Option.bind_eq_some_iff.mp H
                    obtain ⟨t613, A260, H⟩ := H
                    replace H : (if t613 ≤ (Int.tmod x1_7 601) then (some t612) else (none)) = some r := H
                    have A26 := Aside0.mk A260
                    clear A260
                    by_cases c27 : t613 ≤ (Int.tmod x1_7 601)
                    · rw [if_pos c27] at H
                      have c27b0 : decide (t613 ≤ (Int.tmod x1_7 601)) = true := decide_eq_true c27
                      clear c27
                      obtain rfl := Option.some.inj H
                      go_wp2_with (first | ((with_reducible refine gate_callee (f := 19) rfl ?_); refine goesL_ (some 31) rfl rfl Try.func19 (by kernel_rfl) rfl #[.slice A0 (l0.take ((ji5) : Int).toNat).length c0, .int .i64 1] rfl (by (try simp only [List.map_toArray, List.map_cons, List.map_nil]); first | done | (rw [show (l0.take ((ji5) : Int).toNat).length = (ji5).toNat from (by rw [List.length_take]; have h_ : ((ji5) : Int) ≤ (l0.length : Int) := (by first | exact of_decide_eq_true (by first | (with_reducible assumption) | assumption) | (rw [← hji5]; unfold mn; split <;> omega)); omega)] <;> rfl) | (simp only [hji5]; rfl) | rfl | (simp only [List.length_drop, List.length_take]; rfl)) ?_; (with_reducible refine (nat_Shl.calls kj7 (fun k_ => k_ < w.heap.size) _ _ (l0.take ((ji5) : Int).toNat) 1 t584 true _ ?side1 A12.out).mono ?_); (case side1 => exact Kd.V_mk HC583.out (Kd.F_below (Kd.C_F (Kd.heap_int .u32) HR583.out) (by repeat (first | (with_reducible first | exact HB.out | apply below_alloc | apply pw_below_drewN | apply below_drew1) | exact HB.out)))); rintro e w28 ⟨v585, rfl, ho0, hb⟩; refine ⟨_, rfl, ?_⟩; have n0_ := Aside0.mk (Kd.V_lower (Kd.V_mono (ok' := fun k_ => True) ho0 (fun k_ hk_ => trivial)) (below_size (by repeat (first | (with_reducible first | exact HB.out | apply below_alloc | apply pw_below_drewN | apply below_drew1) | exact HB.out)))); have n1_ := Aside0.mk (below_step (by repeat (first | (with_reducible first | exact HB.out | apply below_alloc | apply pw_below_drewN | apply below_drew1) | exact HB.out)) hb); clear HB; have HO586 := n0_; have HB := n1_; clear n0_ n1_; (try clear hb); (try clear hb2); (try clear hk); (try clear hi); (try clear ho0)) | ((with_reducible refine gate_callee (f := 14) rfl ?_); refine goesL_ (some 36) rfl rfl Try.func14 (by kernel_rfl) rfl #[.slice A0 (l0.take ((ji5) : Int).toNat).length c0, .slice A0 (l0.take ((ji5) : Int).toNat).length c0] rfl (by (try simp only [List.map_toArray, List.map_cons, List.map_nil]); first | done | (rw [show (l0.take ((ji5) : Int).toNat).length = (ji5).toNat from (by rw [List.length_take]; have h_ : ((ji5) : Int) ≤ (l0.length : Int) := (by first | exact of_decide_eq_true (by first | (with_reducible assumption) | assumption) | (rw [← hji5]; unfold mn; split <;> omega)); omega)] <;> rfl) | (rw [show (l0.take ((ji5) : Int).toNat).length = (ji5).toNat from (by rw [List.length_take]; have h_ : ((ji5) : Int) ≤ (l0.length : Int) := (by first | exact of_decide_eq_true (by first | (with_reducible assumption) | assumption) | (rw [← hji5]; unfold mn; split <;> omega)); omega)] <;> rfl) | (simp only [hji5]; rfl) | rfl | (simp only [List.length_drop, List.length_take]; rfl)) ?_; (with_reducible refine (nat_Add.calls kj7 (fun k_ => k_ < w.heap.size) _ _ (l0.take ((ji5) : Int).toNat) (fun k_ => k_ < w.heap.size) _ _ (l0.take ((ji5) : Int).toNat) t588 _ ?side1 ?side2 A13.out).mono ?_); (case side1 => exact Kd.V_mk HC583.out (Kd.F_below (Kd.C_F (Kd.heap_int .u32) HR583.out) (by repeat (first | (with_reducible first | exact HB.out | apply below_alloc | apply pw_below_drewN | apply below_drew1) | exact HB.out)))); (case side2 => exact Kd.V_mk HC583.out (Kd.F_below (Kd.C_F (Kd.heap_int .u32) HR583.out) (by repeat (first | (with_reducible first | exact HB.out | apply below_alloc | apply pw_below_drewN | apply below_drew1) | exact HB.out)))); rintro e w29 ⟨v589, rfl, ho0, hb⟩; refine ⟨_, rfl, ?_⟩; have n0_ := Aside0.mk (Kd.V_below (by (with_reducible repeat (first | apply Kd.V_alloc | apply Kd.V_drewN | apply Kd.V_drew)); exact HO586.out) hb); have n1_ := Aside0.mk (Kd.V_lower (Kd.V_mono (ok' := fun k_ => True) ho0 (fun k_ hk_ => trivial)) (below_size (by repeat (first | (with_reducible first | exact HB.out | apply below_alloc | apply pw_below_drewN | apply below_drew1) | exact HB.out)))); have n2_ := Aside0.mk (below_step (by repeat (first | (with_reducible first | exact HB.out | apply below_alloc | apply pw_below_drewN | apply below_drew1) | exact HB.out)) hb); clear HO586; clear HB; have HO586 := n0_; have HO590 := n1_; have HB := n2_; clear n0_ n1_ n2_; (try clear hb); (try clear hb2); (try clear hk); (try clear hi); (try clear ho0); obtain ⟨Ao30, co30, eo30⟩ := Kd.V_slice HO590.out; subst eo30; obtain ⟨Ao31, co31, eo31⟩ := Kd.V_slice HO586.out; subst eo31) | ((with_reducible refine gate_callee (f := 17) rfl ?_); refine goesL_ (some 38) rfl rfl Try.func17 (by kernel_rfl) rfl #[.slice Ao30 t588.length co30, .slice Ao31 t584.length co31] rfl (by (try simp only [List.map_toArray, List.map_cons, List.map_nil]); first | done | rfl | (simp only [List.length_drop, List.length_take]; rfl)) ?_; (with_reducible refine (astrolabelaw01_digits.calls kj7 _ _ t588 _ _ t584 true _ ?side1 ?side2 ?side3 ?side4 A14.out).mono ?_); (case side1 => repeat (first | exact (Kd.V_reads' HO590.out).2.2 | (with_reducible refine Kd.C_alloc ?_ _) | (with_reducible refine Kd.C_drewN ?_ _) | (with_reducible refine Kd.C_drew ?_))); (case side2 => exact (Kd.V_reads' HO590.out).2.1); (case side3 => repeat (first | exact (Kd.V_reads' HO586.out).2.2 | (with_reducible refine Kd.C_alloc ?_ _) | (with_reducible refine Kd.C_drewN ?_ _) | (with_reducible refine Kd.C_drew ?_))); (case side4 => exact (Kd.V_reads' HO586.out).2.1); rintro e w' ⟨rfl, ⟨nd, rfl⟩⟩; refine ⟨_, rfl, ?_⟩) | ((with_reducible refine gate_callee (f := 20) rfl ?_); refine goesL_ (some 42) rfl rfl Try.func20 (by kernel_rfl) rfl #[.slice A0 (l0.take ((ji5) : Int).toNat).length c0, .int .i64 (Int.tmod x1_7 601)] rfl (by (try simp only [List.map_toArray, List.map_cons, List.map_nil]); first | done | (rw [show (l0.take ((ji5) : Int).toNat).length = (ji5).toNat from (by rw [List.length_take]; have h_ : ((ji5) : Int) ≤ (l0.length : Int) := (by first | exact of_decide_eq_true (by first | (with_reducible assumption) | assumption) | (rw [← hji5]; unfold mn; split <;> omega)); omega)] <;> rfl) | (simp only [hji5]; rfl) | rfl | (simp only [List.length_drop, List.length_take]; rfl)) ?_; (with_reducible refine (nat_Shr.calls kj7 (fun k_ => k_ < w.heap.size) _ _ (l0.take ((ji5) : Int).toNat) (Int.tmod x1_7 601) t592 _ ?side1 A15.out).mono ?_); (case side1 => exact Kd.V_mk HC583.out (Kd.F_below (Kd.C_F (Kd.heap_int .u32) HR583.out) (by repeat (first | (with_reducible first | exact HB.out | apply below_alloc | apply pw_below_drewN | apply below_drew1) | exact HB.out)))); rintro e w32 ⟨v593, rfl, ho0, hb⟩; refine ⟨_, rfl, ?_⟩; have n0_ := Aside0.mk (Kd.V_below (by (with_reducible repeat (first | apply Kd.V_alloc | apply Kd.V_drewN | apply Kd.V_drew)); exact HO586.out) hb); have n1_ := Aside0.mk (Kd.V_below (by (with_reducible repeat (first | apply Kd.V_alloc | apply Kd.V_drewN | apply Kd.V_drew)); exact HO590.out) hb); have n2_ := Aside0.mk (Kd.V_lower (Kd.V_mono (ok' := fun k_ => True) ho0 (fun k_ hk_ => trivial)) (below_size (by repeat (first | (with_reducible first | exact HB.out | apply below_alloc | apply pw_below_drewN | apply below_drew1) | exact HB.out)))); have n3_ := Aside0.mk (below_step (by repeat (first | (with_reducible first | exact HB.out | apply below_alloc | apply pw_below_drewN | apply below_drew1) | exact HB.out)) hb); clear HO586; clear HO590; clear HB; have HO586 := n0_; have HO590 := n1_; have HO594 := n2_; have HB := n3_; clear n0_ n1_ n2_ n3_; (try clear hb); (try clear hb2); (try clear hk); (try clear hi); (try clear ho0); obtain ⟨Ao33, co33, eo33⟩ := Kd.V_slice HO594.out; subst eo33) | ((with_reducible refine gate_callee (f := 19) rfl ?_); refine goesL_ (some 44) rfl rfl Try.func19 (by kernel_rfl) rfl #[.slice Ao33 t592.length co33, .int .i64 (Int.tmod x1_7 601)] rfl (by (try simp only [List.map_toArray, List.map_cons, List.map_nil]); first | done | rfl | (simp only [List.length_drop, List.length_take]; rfl)) ?_; (with_reducible refine (nat_Shl.calls kj7 (fun k_ => True) _ _ t592 (Int.tmod x1_7 601) t595 true _ ?side1 A16.out).mono ?_); (case side1 => exact HO594.out); rintro e w34 ⟨v596, rfl, ho0, hb⟩; refine ⟨_, rfl, ?_⟩; have n0_ := Aside0.mk (Kd.V_below (by (with_reducible repeat (first | apply Kd.V_alloc | apply Kd.V_drewN | apply Kd.V_drew)); exact HO586.out) hb); have n1_ := Aside0.mk (Kd.V_below (by (with_reducible repeat (first | apply Kd.V_alloc | apply Kd.V_drewN | apply Kd.V_drew)); exact HO590.out) hb); have n2_ := Aside0.mk (Kd.V_below (by (with_reducible repeat (first | apply Kd.V_alloc | apply Kd.V_drewN | apply Kd.V_drew)); exact HO594.out) hb); have n3_ := Aside0.mk (Kd.V_lower (Kd.V_mono (ok' := fun k_ => True) ho0 (fun k_ hk_ => trivial)) (below_size (by repeat (first | (with_reducible first | exact HB.out | apply below_alloc | apply pw_below_drewN | apply below_drew1) | exact HB.out)))); have n4_ := Aside0.mk (below_step (by repeat (first | (with_reducible first | exact HB.out | apply below_alloc | apply pw_below_drewN | apply below_drew1) | exact HB.out)) hb); clear HO586; clear HO590; clear HO594; clear HB; have HO586 := n0_; have HO590 := n1_; have HO594 := n2_; have HO597 := n3_; have HB := n4_; clear n0_ n1_ n2_ n3_ n4_; (try clear hb); (try clear hb2); (try clear hk); (try clear hi); (try clear ho0); obtain ⟨Ao35, co35, eo35⟩ := Kd.V_slice HO597.out; subst eo35) | ((with_reducible refine gate_callee (f := 31) rfl ?_); refine goesL_ (some 50) rfl rfl Try.func31 (by kernel_rfl) rfl #[.slice A0 (l0.take ((ji5) : Int).toNat).length c0, .slice Ao35 t595.length co35] rfl (by (try simp only [List.map_toArray, List.map_cons, List.map_nil]); first | done | (rw [show (l0.take ((ji5) : Int).toNat).length = (ji5).toNat from (by rw [List.length_take]; have h_ : ((ji5) : Int) ≤ (l0.length : Int) := (by first | exact of_decide_eq_true (by first | (with_reducible assumption) | assumption) | (rw [← hji5]; unfold mn; split <;> omega)); omega)] <;> rfl) | (simp only [hji5]; rfl) | rfl | (simp only [List.length_drop, List.length_take]; rfl)) ?_; (with_reducible refine (nat_Sub.calls kj7 (fun k_ => k_ < w.heap.size) _ _ (l0.take ((ji5) : Int).toNat) (fun k_ => True) _ _ t595 t599 true _ ?side1 ?side2 A17.out).mono ?_); (case side1 => exact Kd.V_mk HC583.out (Kd.F_below (Kd.C_F (Kd.heap_int .u32) HR583.out) (by repeat (first | (with_reducible first | exact HB.out | apply below_alloc | apply pw_below_drewN | apply below_drew1) | exact HB.out)))); (case side2 => exact HO597.out); rintro e w36 ⟨v600, rfl, ho0, hb⟩; refine ⟨_, rfl, ?_⟩; have n0_ := Aside0.mk (Kd.V_below (by (with_reducible repeat (first | apply Kd.V_alloc | apply Kd.V_drewN | apply Kd.V_drew)); exact HO586.out) hb); have n1_ := Aside0.mk (Kd.V_below (by (with_reducible repeat (first | apply Kd.V_alloc | apply Kd.V_drewN | apply Kd.V_drew)); exact HO590.out) hb); have n2_ := Aside0.mk (Kd.V_below (by (with_reducible repeat (first | apply Kd.V_alloc | apply Kd.V_drewN | apply Kd.V_drew)); exact HO594.out) hb); have n3_ := Aside0.mk (Kd.V_below (by (with_reducible repeat (first | apply Kd.V_alloc | apply Kd.V_drewN | apply Kd.V_drew)); exact HO597.out) hb); have n4_ := Aside0.mk (Kd.V_lower (Kd.V_mono (ok' := fun k_ => True) ho0 (fun k_ hk_ => trivial)) (below_size (by repeat (first | (with_reducible first | exact HB.out | apply below_alloc | apply pw_below_drewN | apply below_drew1) | exact HB.out)))); have n5_ := Aside0.mk (below_step (by repeat (first | (with_reducible first | exact HB.out | apply below_alloc | apply pw_below_drewN | apply below_drew1) | exact HB.out)) hb); clear HO586; clear HO590; clear HO594; clear HO597; clear HB; have HO586 := n0_; have HO590 := n1_; have HO594 := n2_; have HO597 := n3_; have HO601 := n4_; have HB := n5_; clear n0_ n1_ n2_ n3_ n4_ n5_; (try clear hb); (try clear hb2); (try clear hk); (try clear hi); (try clear ho0)) | ((with_reducible refine gate_callee (f := 13) rfl ?_); refine goesL_ (some 54) rfl rfl Try.func13 (by kernel_rfl) rfl #[.int .u64 3] rfl (by (try simp only [List.map_toArray, List.map_cons, List.map_nil]); first | done | rfl | (simp only [List.length_drop, List.length_take]; rfl)) ?_; (with_reducible refine (nat_From.calls kj7 3 t603 _ A18.out).mono ?_); rintro e w37 ⟨v604, rfl, ho0, hb⟩; refine ⟨_, rfl, ?_⟩; have n0_ := Aside0.mk (Kd.V_below (by (with_reducible repeat (first | apply Kd.V_alloc | apply Kd.V_drewN | apply Kd.V_drew)); exact HO586.out) hb); have n1_ := Aside0.mk (Kd.V_below (by (with_reducible repeat (first | apply Kd.V_alloc | apply Kd.V_drewN | apply Kd.V_drew)); exact HO590.out) hb); have n2_ := Aside0.mk (Kd.V_below (by (with_reducible repeat (first | apply Kd.V_alloc | apply Kd.V_drewN | apply Kd.V_drew)); exact HO594.out) hb); have n3_ := Aside0.mk (Kd.V_below (by (with_reducible repeat (first | apply Kd.V_alloc | apply Kd.V_drewN | apply Kd.V_drew)); exact HO597.out) hb); have n4_ := Aside0.mk (Kd.V_below (by (with_reducible repeat (first | apply Kd.V_alloc | apply Kd.V_drewN | apply Kd.V_drew)); exact HO601.out) hb); have n5_ := Aside0.mk (Kd.V_lower (Kd.V_mono (ok' := fun k_ => True) ho0 (fun k_ hk_ => trivial)) (below_size (by repeat (first | (with_reducible first | exact HB.out | apply below_alloc | apply pw_below_drewN | apply below_drew1) | exact HB.out)))); have n6_ := Aside0.mk (below_step (by repeat (first | (with_reducible first | exact HB.out | apply below_alloc | apply pw_below_drewN | apply below_drew1) | exact HB.out)) hb); clear HO586; clear HO590; clear HO594; clear HO597; clear HO601; clear HB; have HO586 := n0_; have HO590 := n1_; have HO594 := n2_; have HO597 := n3_; have HO601 := n4_; have HO605 := n5_; have HB := n6_; clear n0_ n1_ n2_ n3_ n4_ n5_ n6_; (try clear hb); (try clear hb2); (try clear hk); (try clear hi); (try clear ho0); obtain ⟨Ao38, co38, eo38⟩ := Kd.V_slice HO605.out; subst eo38) | ((with_reducible refine gate_callee (f := 15) rfl ?_); refine goesL_ (some 55) rfl rfl Try.func15 (by kernel_rfl) rfl #[.slice A0 (l0.take ((ji5) : Int).toNat).length c0, .slice Ao38 t603.length co38] rfl (by (try simp only [List.map_toArray, List.map_cons, List.map_nil]); first | done | (rw [show (l0.take ((ji5) : Int).toNat).length = (ji5).toNat from (by rw [List.length_take]; have h_ : ((ji5) : Int) ≤ (l0.length : Int) := (by first | exact of_decide_eq_true (by first | (with_reducible assumption) | assumption) | (rw [← hji5]; unfold mn; split <;> omega)); omega)] <;> rfl) | (simp only [hji5]; rfl) | rfl | (simp only [List.length_drop, List.length_take]; rfl)) ?_; (with_reducible refine (nat_Mul.calls kj7 (fun k_ => k_ < w.heap.size) _ _ (l0.take ((ji5) : Int).toNat) (fun k_ => True) _ _ t603 t606 _ ?side1 ?side2 A19.out).mono ?_); (case side1 => exact Kd.V_mk HC583.out (Kd.F_below (Kd.C_F (Kd.heap_int .u32) HR583.out) (by repeat (first | (with_reducible first | exact HB.out | apply below_alloc | apply pw_below_drewN | apply below_drew1) | exact HB.out)))); (case side2 => exact HO605.out); rintro e w39 ⟨v607, rfl, ho0, hb⟩; refine ⟨_, rfl, ?_⟩; have n0_ := Aside0.mk (Kd.V_below (by (with_reducible repeat (first | apply Kd.V_alloc | apply Kd.V_drewN | apply Kd.V_drew)); exact HO586.out) hb); have n1_ := Aside0.mk (Kd.V_below (by (with_reducible repeat (first | apply Kd.V_alloc | apply Kd.V_drewN | apply Kd.V_drew)); exact HO590.out) hb); have n2_ := Aside0.mk (Kd.V_below (by (with_reducible repeat (first | apply Kd.V_alloc | apply Kd.V_drewN | apply Kd.V_drew)); exact HO594.out) hb); have n3_ := Aside0.mk (Kd.V_below (by (with_reducible repeat (first | apply Kd.V_alloc | apply Kd.V_drewN | apply Kd.V_drew)); exact HO597.out) hb); have n4_ := Aside0.mk (Kd.V_below (by (with_reducible repeat (first | apply Kd.V_alloc | apply Kd.V_drewN | apply Kd.V_drew)); exact HO601.out) hb); have n5_ := Aside0.mk (Kd.V_below (by (with_reducible repeat (first | apply Kd.V_alloc | apply Kd.V_drewN | apply Kd.V_drew)); exact HO605.out) hb); have n6_ := Aside0.mk (Kd.V_lower (Kd.V_mono (ok' := fun k_ => True) ho0 (fun k_ hk_ => trivial)) (below_size (by repeat (first | (with_reducible first | exact HB.out | apply below_alloc | apply pw_below_drewN | apply below_drew1) | exact HB.out)))); have n7_ := Aside0.mk (below_step (by repeat (first | (with_reducible first | exact HB.out | apply below_alloc | apply pw_below_drewN | apply below_drew1) | exact HB.out)) hb); clear HO586; clear HO590; clear HO594; clear HO597; clear HO601; clear HO605; clear HB; have HO586 := n0_; have HO590 := n1_; have HO594 := n2_; have HO597 := n3_; have HO601 := n4_; have HO605 := n5_; have HO608 := n6_; have HB := n7_; clear n0_ n1_ n2_ n3_ n4_ n5_ n6_ n7_; (try clear hb); (try clear hb2); (try clear hk); (try clear hi); (try clear ho0)) | ((with_reducible refine gate_callee (f := 14) rfl ?_); refine goesL_ (some 58) rfl rfl Try.func14 (by kernel_rfl) rfl #[.slice Ao31 t584.length co31, .slice A0 (l0.take ((ji5) : Int).toNat).length c0] rfl (by (try simp only [List.map_toArray, List.map_cons, List.map_nil]); first | done | (rw [show (l0.take ((ji5) : Int).toNat).length = (ji5).toNat from (by rw [List.length_take]; have h_ : ((ji5) : Int) ≤ (l0.length : Int) := (by first | exact of_decide_eq_true (by first | (with_reducible assumption) | assumption) | (rw [← hji5]; unfold mn; split <;> omega)); omega)] <;> rfl) | (simp only [hji5]; rfl) | rfl | (simp only [List.length_drop, List.length_take]; rfl)) ?_; (with_reducible refine (nat_Add.calls kj7 (fun k_ => True) _ _ t584 (fun k_ => k_ < w.heap.size) _ _ (l0.take ((ji5) : Int).toNat) t609 _ ?side1 ?side2 A20.out).mono ?_); (case side1 => exact HO586.out); (case side2 => exact Kd.V_mk HC583.out (Kd.F_below (Kd.C_F (Kd.heap_int .u32) HR583.out) (by repeat (first | (with_reducible first | exact HB.out | apply below_alloc | apply pw_below_drewN | apply below_drew1) | exact HB.out)))); rintro e w40 ⟨v610, rfl, ho0, hb⟩; refine ⟨_, rfl, ?_⟩; have n0_ := Aside0.mk (Kd.V_below (by (with_reducible repeat (first | apply Kd.V_alloc | apply Kd.V_drewN | apply Kd.V_drew)); exact HO586.out) hb); have n1_ := Aside0.mk (Kd.V_below (by (with_reducible repeat (first | apply Kd.V_alloc | apply Kd.V_drewN | apply Kd.V_drew)); exact HO590.out) hb); have n2_ := Aside0.mk (Kd.V_below (by (with_reducible repeat (first | apply Kd.V_alloc | apply Kd.V_drewN | apply Kd.V_drew)); exact HO594.out) hb); have n3_ := Aside0.mk (Kd.V_below (by (with_reducible repeat (first | apply Kd.V_alloc | apply Kd.V_drewN | apply Kd.V_drew)); exact HO597.out) hb); have n4_ := Aside0.mk (Kd.V_below (by (with_reducible repeat (first | apply Kd.V_alloc | apply Kd.V_drewN | apply Kd.V_drew)); exact HO601.out) hb); have n5_ := Aside0.mk (Kd.V_below (by (with_reducible repeat (first | apply Kd.V_alloc | apply Kd.V_drewN | apply Kd.V_drew)); exact HO605.out) hb); have n6_ := Aside0.mk (Kd.V_below (by (with_reducible repeat (first | apply Kd.V_alloc | apply Kd.V_drewN | apply Kd.V_drew)); exact HO608.out) hb); have n7_ := Aside0.mk (Kd.V_lower (Kd.V_mono (ok' := fun k_ => True) ho0 (fun k_ hk_ => trivial)) (below_size (by repeat (first | (with_reducible first | exact HB.out | apply below_alloc | apply pw_below_drewN | apply below_drew1) | exact HB.out)))); have n8_ := Aside0.mk (below_step (by repeat (first | (with_reducible first | exact HB.out | apply below_alloc | apply pw_below_drewN | apply below_drew1) | exact HB.out)) hb); clear HO586; clear HO590; clear HO594; clear HO597; clear HO601; clear HO605; clear HO608; clear HB; have HO586 := n0_; have HO590 := n1_; have HO594 := n2_; have HO597 := n3_; have HO601 := n4_; have HO605 := n5_; have HO608 := n6_; have HO611 := n7_; have HB := n8_; clear n0_ n1_ n2_ n3_ n4_ n5_ n6_ n7_ n8_; (try clear hb); (try clear hb2); (try clear hk); (try clear hi); (try clear ho0); obtain ⟨Ao41, co41, eo41⟩ := Kd.V_slice HO608.out; subst eo41; obtain ⟨Ao42, co42, eo42⟩ := Kd.V_slice HO611.out; subst eo42) | ((with_reducible refine gate_callee (f := 17) rfl ?_); refine goesL_ (some 59) rfl rfl Try.func17 (by kernel_rfl) rfl #[.slice Ao41 t606.length co41, .slice Ao42 t609.length co42] rfl (by (try simp only [List.map_toArray, List.map_cons, List.map_nil]); first | done | rfl | (simp only [List.length_drop, List.length_take]; rfl)) ?_; (with_reducible refine (astrolabelaw01_digits.calls kj7 _ _ t606 _ _ t609 t612 _ ?side1 ?side2 ?side3 ?side4 A21.out).mono ?_); (case side1 => repeat (first | exact (Kd.V_reads' HO608.out).2.2 | (with_reducible refine Kd.C_alloc ?_ _) | (with_reducible refine Kd.C_drewN ?_ _) | (with_reducible refine Kd.C_drew ?_))); (case side2 => exact (Kd.V_reads' HO608.out).2.1); (case side3 => repeat (first | exact (Kd.V_reads' HO611.out).2.2 | (with_reducible refine Kd.C_alloc ?_ _) | (with_reducible refine Kd.C_drewN ?_ _) | (with_reducible refine Kd.C_drew ?_))); (case side4 => exact (Kd.V_reads' HO611.out).2.1); rintro e w' ⟨rfl, ⟨nd, rfl⟩⟩; refine ⟨_, rfl, ?_⟩; obtain ⟨Ao43, co43, eo43⟩ := Kd.V_slice HO601.out; subst eo43) | (go_at_call 16; (with_reducible refine (nat_Bits.calls kj7 _ _ t599 t613 _ ?side1 ?side2 A26.out).mono ?_); (case side1 => repeat (first | exact (Kd.V_reads' HO601.out).2.2 | (with_reducible refine Kd.C_alloc ?_ _) | (with_reducible refine Kd.C_drewN ?_ _) | (with_reducible refine Kd.C_drew ?_))); (case side2 => exact (Kd.V_reads' HO601.out).2.1); rintro e w44 ⟨rfl, hb⟩; have n0_ := Aside0.mk (Kd.V_below (by (with_reducible repeat (first | apply Kd.V_alloc | apply Kd.V_drewN | apply Kd.V_drew)); exact HO586.out) hb); have n1_ := Aside0.mk (Kd.V_below (by (with_reducible repeat (first | apply Kd.V_alloc | apply Kd.V_drewN | apply Kd.V_drew)); exact HO590.out) hb); have n2_ := Aside0.mk (Kd.V_below (by (with_reducible repeat (first | apply Kd.V_alloc | apply Kd.V_drewN | apply Kd.V_drew)); exact HO594.out) hb); have n3_ := Aside0.mk (Kd.V_below (by (with_reducible repeat (first | apply Kd.V_alloc | apply Kd.V_drewN | apply Kd.V_drew)); exact HO597.out) hb); have n4_ := Aside0.mk (Kd.V_below (by (with_reducible repeat (first | apply Kd.V_alloc | apply Kd.V_drewN | apply Kd.V_drew)); exact HO601.out) hb); have n5_ := Aside0.mk (Kd.V_below (by (with_reducible repeat (first | apply Kd.V_alloc | apply Kd.V_drewN | apply Kd.V_drew)); exact HO605.out) hb); have n6_ := Aside0.mk (Kd.V_below (by (with_reducible repeat (first | apply Kd.V_alloc | apply Kd.V_drewN | apply Kd.V_drew)); exact HO608.out) hb); have n7_ := Aside0.mk (Kd.V_below (by (with_reducible repeat (first | apply Kd.V_alloc | apply Kd.V_drewN | apply Kd.V_drew)); exact HO611.out) hb); have n8_ := Aside0.mk (below_step (by repeat (first | (with_reducible first | exact HB.out | apply below_alloc | apply pw_below_drewN | apply below_drew1) | exact HB.out)) hb); clear HO586; clear HO590; clear HO594; clear HO597; clear HO601; clear HO605; clear HO608; clear HO611; clear HB; have HO586 := n0_; have HO590 := n1_; have HO594 := n2_; have HO597 := n3_; have HO601 := n4_; have HO605 := n5_; have HO608 := n6_; have HO611 := n7_; have HB := n8_; clear n0_ n1_ n2_ n3_ n4_ n5_ n6_ n7_ n8_; (try clear hb); (try clear hb2); (try clear hk); (try clear hi)))
                      go_ret
                      exact ⟨by first | rfl | (simp [errW_none, errW_some] <;> rfl) | (simp only [← hji5]; first | rfl | (simp [errW_none, errW_some] <;> rfl)) | (simp [*, errW_none, errW_some] <;> rfl), by repeat (first | (with_reducible first | exact HB.out | apply below_alloc | apply pw_below_drewN | apply below_drew1) | exact HB.out)⟩
                    · rw [if_neg c27] at H
                      exact absurd H (by simp)
                  · replace c25 := Bool.eq_false_iff.mpr c25
                    subst c25
                    have H1 : (none) = some r := by rw [if_neg (show ¬ (false = true) by decide)] at H; exact H
                    clear H
                    have H := H1
                    clear H1
                    exact absurd H (by simp)
                · replace c24 := Bool.eq_false_iff.mpr c24
                  subst c24
                  have H1 : (none) = some r := by rw [if_neg (show ¬ (false = true) by decide)] at H; exact H
                  clear H
                  have H := H1
                  clear H1
                  exact absurd H (by simp)
              · replace c23 := Bool.eq_false_iff.mpr c23
                subst c23
                have H1 : (none) = some r := by rw [if_neg (show ¬ (false = true) by decide)] at H; exact H
                clear H
                have H := H1
                clear H1
                exact absurd H (by simp)
            · replace c22 := Bool.eq_false_iff.mpr c22
              subst c22
              have H1 : (none) = some r := by rw [if_neg (show ¬ (false = true) by decide)] at H; exact H
              clear H
              have H := H1
              clear H1
              exact absurd H (by simp)
      · rw [if_neg c7] at H
        exact absurd H (by simp)
    · rw [if_neg c6] at H
      exact absurd H (by simp)
  · replace c4 := Bool.eq_false_iff.mpr c4
    subst c4
    have H1 : (none) = some r := by rw [if_neg (show ¬ (false = true) by decide)] at H; exact H
    clear H
    have H := H1
    clear H1
    exact absurd H (by simp)

/-- THE ONE PURE STATEMENT of astrolabelaw01_NatDoubles: yours. -/
def astrolabelaw01_NatDoubles.Pure : Prop := ∀ (l0 : List Int) (a1 : Int), l0.length ≤ maxLen → l0.length * 4 ≤ 140737488351232 → (∀ x ∈ l0, (Lit.int .u32 x).wf = true) → (Lit.int .i64 a1).wf = true → ∃ k, astrolabelaw01_NatDoubles.f k l0 a1 = some true
theorem astrolabelaw01_NatDoubles.walk (P : astrolabelaw01_NatDoubles.Pure) (a0 : Option Addr) (len0 cap0 : Nat) (z0 : List Int) (a1 : Int) (w : World) (w0 : (a0 = none ∧ len0 = 0 ∧ cap0 = 0 ∧ z0 = []) ∨ ∃ x, a0 = some x ∧ len0 ≤ cap0 ∧ cap0 ≤ maxLen ∧ z0.length = cap0 ∧ (∀ i, i < z0.length → w.cell? (x.add i) = some (.int .u32 (z0.getD i 0))) ∧ ∀ n ∈ z0, (Lit.int .u32 n).wf = true) (y0 : len0 * 4 ≤ 140737488351232) (w1 : (Lit.int .i64 a1).wf = true) :
    Calls Try.prog 10 #[.slice a0 len0 cap0, .int .i64 a1] w fun e w' => e = .returned (.bool true) ∧ Below w.heap.size w w' := by
  obtain ⟨l0, rfl, hr0, hm0, hw0, hc0⟩ := ReadsInt.ofRowC w0
  obtain ⟨k, h⟩ := P l0 a1 hm0 y0 hw0 w1
  refine (astrolabelaw01_NatDoubles.calls k _ _ l0 a1 true w (Kd.C_of_reads (d := (0 : Int)) (h1 := fun _ => rfl) hr0) hc0 h).mono ?_
  rintro e w' ⟨rfl, hd⟩
  exact ⟨rfl, hd⟩

end Go.Proofs.Ytmkffnhgcpdbaaa.P
