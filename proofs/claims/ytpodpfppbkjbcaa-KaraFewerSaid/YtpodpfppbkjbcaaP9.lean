/- What the Go functions of these names come to, as plain Lean functions, and the walks that show it. Written for this claim by a turned copy of the print program; Lean checks it. -/
import Derived.Test.YtpodpfppbkjbcaaP0
import Derived.Test.YtpodpfppbkjbcaaP5
import Derived.Test.YtpodpfppbkjbcaaP8
namespace Go.Proofs.Ytpodpfppbkjbcaa.P
open Go.RowKit Go.Proofs.YtpodpfppbkjbcaaW.PrintWords Go.Proofs.YtpodpfppbkjbcaaW.PrintLast Go.Proofs.YtpodpfppbkjbcaaW.PrintMore
attribute [local go_sem] max2_int min2_int max_two min_two max_three min_three max_four min_four   -- for this text's walks alone
set_option linter.unusedVariables false
set_option linter.unusedSimpArgs false

/-! ### astrolabelaw02_KaraFewer: function 3 -/
def astrolabelaw02_KaraFewer.f (k : Nat) (a0 : Int) : Option (Bool) := (astrolabelaw02_examples.f k).bind fun t263 => (if t263 = true then (if a0 < 0 then ((kara_Steps.f k (Int.tmod (wrap64 (-(wrap64 (a0 + 1)))) 20001)).bind fun t264 => ((kara_Steps.f k (wrap64 ((Int.tmod (wrap64 (-(wrap64 (a0 + 1)))) 20001) + 1))).bind fun t265 => (if t264 ≤ t265 then (if (Int.tmod (wrap64 (-(wrap64 (a0 + 1)))) 20001) < 12 then (some true) else (some (decide (t264 < (wrap64 ((Int.tmod (wrap64 (-(wrap64 (a0 + 1)))) 20001) * (Int.tmod (wrap64 (-(wrap64 (a0 + 1)))) 20001))))))) else (none)))) else ((kara_Steps.f k (Int.tmod a0 20001)).bind fun t266 => ((kara_Steps.f k (wrap64 ((Int.tmod a0 20001) + 1))).bind fun t267 => (if t266 ≤ t267 then (if (Int.tmod a0 20001) < 12 then (some true) else (some (decide (t266 < (wrap64 ((Int.tmod a0 20001) * (Int.tmod a0 20001))))))) else (none))))) else (none))
theorem astrolabelaw02_KaraFewer.mono : ∀ a0 k, LeO (astrolabelaw02_KaraFewer.f k a0) (astrolabelaw02_KaraFewer.f (k + 1) a0) := by
  intro a0 k
  unfold astrolabelaw02_KaraFewer.f
  repeat' first
      | (with_reducible exact astrolabelaw02_examples.mono _)
      | (with_reducible exact kara_Steps.mono _ _)
      | (with_reducible exact LeO.refl _)
      | (with_reducible exact LeO.none _)
      | (with_reducible refine LeO.ite ?_ ?_)
      | (with_reducible refine LeO.bind ?_ (fun _ => ?_))
      | exact astrolabelaw02_examples.mono _
      | exact kara_Steps.mono _ _
      | exact LeO.none _
      | refine LeO.ite ?_ ?_
      | refine LeO.bind ?_ (fun _ => ?_)
set_option maxHeartbeats 8000000 in
set_option maxRecDepth 100000 in
theorem astrolabelaw02_KaraFewer.calls (k : Nat) (a0 : Int) (r : Bool) (w : World) (h : astrolabelaw02_KaraFewer.f k a0 = some r) :
    Calls Try.prog 3 #[.int .i64 a0] w fun e w' => e = .returned (.bool r) ∧ Below w.heap.size w w' := by
  have HB := Aside0.mk (Below.refl w.heap.size w)
  have H : ((astrolabelaw02_examples.f k).bind fun t263 => (if t263 = true then (if a0 < 0 then ((kara_Steps.f k (Int.tmod (wrap64 (-(wrap64 (a0 + 1)))) 20001)).bind fun t264 => ((kara_Steps.f k (wrap64 ((Int.tmod (wrap64 (-(wrap64 (a0 + 1)))) 20001) + 1))).bind fun t265 => (if t264 ≤ t265 then (if (Int.tmod (wrap64 (-(wrap64 (a0 + 1)))) 20001) < 12 then (some true) else (some (decide (t264 < (wrap64 ((Int.tmod (wrap64 (-(wrap64 (a0 + 1)))) 20001) * (Int.tmod (wrap64 (-(wrap64 (a0 + 1)))) 20001))))))) else (none)))) else ((kara_Steps.f k (Int.tmod a0 20001)).bind fun t266 => ((kara_Steps.f k (wrap64 ((Int.tmod a0 20001) + 1))).bind fun t267 => (if t266 ≤ t267 then (if (Int.tmod a0 20001) < 12 then (some true) else (some (decide (t266 < (wrap64 ((Int.tmod a0 20001) * (Int.tmod a0 20001))))))) else (none))))) else (none))) = some r := h
  clear h
  replace H := Option.bind_eq_some_iff.mp H
  obtain ⟨t263, A20, H⟩ := H
  replace H : (if t263 = true then (if a0 < 0 then ((kara_Steps.f k (Int.tmod (wrap64 (-(wrap64 (a0 + 1)))) 20001)).bind fun t264 => ((kara_Steps.f k (wrap64 ((Int.tmod (wrap64 (-(wrap64 (a0 + 1)))) 20001) + 1))).bind fun t265 => (if t264 ≤ t265 then (if (Int.tmod (wrap64 (-(wrap64 (a0 + 1)))) 20001) < 12 then (some true) else (some (decide (t264 < (wrap64 ((Int.tmod (wrap64 (-(wrap64 (a0 + 1)))) 20001) * (Int.tmod (wrap64 (-(wrap64 (a0 + 1)))) 20001))))))) else (none)))) else ((kara_Steps.f k (Int.tmod a0 20001)).bind fun t266 => ((kara_Steps.f k (wrap64 ((Int.tmod a0 20001) + 1))).bind fun t267 => (if t266 ≤ t267 then (if (Int.tmod a0 20001) < 12 then (some true) else (some (decide (t266 < (wrap64 ((Int.tmod a0 20001) * (Int.tmod a0 20001))))))) else (none))))) else (none)) = some r := H
  have A2 := Aside0.mk A20
  clear A20
  by_cases c3 : t263 = true
  · subst c3
    have H1 : (if a0 < 0 then ((kara_Steps.f k (Int.tmod (wrap64 (-(wrap64 (a0 + 1)))) 20001)).bind fun t264 => ((kara_Steps.f k (wrap64 ((Int.tmod (wrap64 (-(wrap64 (a0 + 1)))) 20001) + 1))).bind fun t265 => (if t264 ≤ t265 then (if (Int.tmod (wrap64 (-(wrap64 (a0 + 1)))) 20001) < 12 then (some true) else (some (decide (t264 < (wrap64 ((Int.tmod (wrap64 (-(wrap64 (a0 + 1)))) 20001) * (Int.tmod (wrap64 (-(wrap64 (a0 + 1)))) 20001))))))) else (none)))) else ((kara_Steps.f k (Int.tmod a0 20001)).bind fun t266 => ((kara_Steps.f k (wrap64 ((Int.tmod a0 20001) + 1))).bind fun t267 => (if t266 ≤ t267 then (if (Int.tmod a0 20001) < 12 then (some true) else (some (decide (t266 < (wrap64 ((Int.tmod a0 20001) * (Int.tmod a0 20001))))))) else (none))))) = some r := by rw [if_pos rfl] at H; exact H
    clear H
    have H := H1
    clear H1
    by_cases c4 : a0 < 0
    · rw [if_pos c4] at H
      have c4b0 : decide (a0 < 0) = true := decide_eq_true c4
      clear c4
      replace H := Option.bind_eq_some_iff.mp H
      obtain ⟨t264, A50, H⟩ := H
      replace H : ((kara_Steps.f k (wrap64 ((Int.tmod (wrap64 (-(wrap64 (a0 + 1)))) 20001) + 1))).bind fun t265 => (if t264 ≤ t265 then (if (Int.tmod (wrap64 (-(wrap64 (a0 + 1)))) 20001) < 12 then (some true) else (some (decide (t264 < (wrap64 ((Int.tmod (wrap64 (-(wrap64 (a0 + 1)))) 20001) * (Int.tmod (wrap64 (-(wrap64 (a0 + 1)))) 20001))))))) else (none))) = some r := H
      have A5 := Aside0.mk A50
      clear A50
      replace H := Option.bind_eq_some_iff.mp H
      obtain ⟨t265, A60, H⟩ := H
      replace H : (if t264 ≤ t265 then (if (Int.tmod (wrap64 (-(wrap64 (a0 + 1)))) 20001) < 12 then (some true) else (some (decide (t264 < (wrap64 ((Int.tmod (wrap64 (-(wrap64 (a0 + 1)))) 20001) * (Int.tmod (wrap64 (-(wrap64 (a0 + 1)))) 20001))))))) else (none)) = some r := H
      have A6 := Aside0.mk A60
      clear A60
      by_cases c7 : t264 ≤ t265
      · rw [if_pos c7] at H
        have c7b0 : decide (t264 ≤ t265) = true := decide_eq_true c7
        clear c7
        by_cases c8 : (Int.tmod (wrap64 (-(wrap64 (a0 + 1)))) 20001) < 12
        · rw [if_pos c8] at H
          have c8b0 : decide ((Int.tmod (wrap64 (-(wrap64 (a0 + 1)))) 20001) < 12) = true := decide_eq_true c8
          clear c8
          obtain rfl := Option.some.inj H
          go_enter Try.func3, Try.ntmps3
          go_wp2_with (first | ((with_reducible refine gate_callee (f := 8) rfl ?_); refine goesL_ (some 5) rfl rfl Try.func8 (by kernel_rfl) rfl #[] rfl (by (try simp only [List.map_toArray, List.map_cons, List.map_nil]); first | done | rfl | (simp only [List.length_drop, List.length_take]; rfl)) ?_; (with_reducible refine (astrolabelaw02_examples.calls k  true _ A2.out).mono ?_); rintro e w9 ⟨rfl, hb⟩; refine ⟨_, rfl, ?_⟩; have n0_ := Aside0.mk (below_step (by repeat (first | (with_reducible first | exact HB.out | apply below_alloc | apply pw_below_drewN | apply below_drew1) | exact HB.out)) hb); clear HB; have HB := n0_; clear n0_; (try clear hb); (try clear hb2); (try clear hk); (try clear hi)) | ((with_reducible refine gate_callee (f := 9) rfl ?_); refine goesL_ (some 16) rfl rfl Try.func9 (by kernel_rfl) rfl #[.int .i64 (Int.tmod (wrap64 (-(wrap64 (a0 + 1)))) 20001)] rfl (by (try simp only [List.map_toArray, List.map_cons, List.map_nil]); first | done | rfl | (simp only [List.length_drop, List.length_take]; rfl)) ?_; (with_reducible refine (kara_Steps.calls k (Int.tmod (wrap64 (-(wrap64 (a0 + 1)))) 20001) t264 _ A5.out).mono ?_); rintro e w10 ⟨rfl, hb⟩; refine ⟨_, rfl, ?_⟩; have n0_ := Aside0.mk (below_step (by repeat (first | (with_reducible first | exact HB.out | apply below_alloc | apply pw_below_drewN | apply below_drew1) | exact HB.out)) hb); clear HB; have HB := n0_; clear n0_; (try clear hb); (try clear hb2); (try clear hk); (try clear hi)) | (go_at_call 9; (with_reducible refine (kara_Steps.calls k (wrap64 ((Int.tmod (wrap64 (-(wrap64 (a0 + 1)))) 20001) + 1)) t265 _ A6.out).mono ?_); rintro e w11 ⟨rfl, hb⟩; have n0_ := Aside0.mk (below_step (by repeat (first | (with_reducible first | exact HB.out | apply below_alloc | apply pw_below_drewN | apply below_drew1) | exact HB.out)) hb); clear HB; have HB := n0_; clear n0_; (try clear hb); (try clear hb2); (try clear hk); (try clear hi)))
          go_ret
          exact ⟨by first | rfl | (simp [errW_none, errW_some] <;> rfl) | (simp [*, errW_none, errW_some] <;> rfl), by repeat (first | (with_reducible first | exact HB.out | apply below_alloc | apply pw_below_drewN | apply below_drew1) | exact HB.out)⟩
        · rw [if_neg c8] at H
          have c8b0 : decide ((Int.tmod (wrap64 (-(wrap64 (a0 + 1)))) 20001) < 12) = false := decide_eq_false c8
          clear c8
          obtain rfl := Option.some.inj H
          go_enter Try.func3, Try.ntmps3
          go_wp2_with (first | ((with_reducible refine gate_callee (f := 8) rfl ?_); refine goesL_ (some 5) rfl rfl Try.func8 (by kernel_rfl) rfl #[] rfl (by (try simp only [List.map_toArray, List.map_cons, List.map_nil]); first | done | rfl | (simp only [List.length_drop, List.length_take]; rfl)) ?_; (with_reducible refine (astrolabelaw02_examples.calls k  true _ A2.out).mono ?_); rintro e w12 ⟨rfl, hb⟩; refine ⟨_, rfl, ?_⟩; have n0_ := Aside0.mk (below_step (by repeat (first | (with_reducible first | exact HB.out | apply below_alloc | apply pw_below_drewN | apply below_drew1) | exact HB.out)) hb); clear HB; have HB := n0_; clear n0_; (try clear hb); (try clear hb2); (try clear hk); (try clear hi)) | ((with_reducible refine gate_callee (f := 9) rfl ?_); refine goesL_ (some 16) rfl rfl Try.func9 (by kernel_rfl) rfl #[.int .i64 (Int.tmod (wrap64 (-(wrap64 (a0 + 1)))) 20001)] rfl (by (try simp only [List.map_toArray, List.map_cons, List.map_nil]); first | done | rfl | (simp only [List.length_drop, List.length_take]; rfl)) ?_; (with_reducible refine (kara_Steps.calls k (Int.tmod (wrap64 (-(wrap64 (a0 + 1)))) 20001) t264 _ A5.out).mono ?_); rintro e w13 ⟨rfl, hb⟩; refine ⟨_, rfl, ?_⟩; have n0_ := Aside0.mk (below_step (by repeat (first | (with_reducible first | exact HB.out | apply below_alloc | apply pw_below_drewN | apply below_drew1) | exact HB.out)) hb); clear HB; have HB := n0_; clear n0_; (try clear hb); (try clear hb2); (try clear hk); (try clear hi)) | (go_at_call 9; (with_reducible refine (kara_Steps.calls k (wrap64 ((Int.tmod (wrap64 (-(wrap64 (a0 + 1)))) 20001) + 1)) t265 _ A6.out).mono ?_); rintro e w14 ⟨rfl, hb⟩; have n0_ := Aside0.mk (below_step (by repeat (first | (with_reducible first | exact HB.out | apply below_alloc | apply pw_below_drewN | apply below_drew1) | exact HB.out)) hb); clear HB; have HB := n0_; clear n0_; (try clear hb); (try clear hb2); (try clear hk); (try clear hi)))
          go_ret
          exact ⟨by first | rfl | (simp [errW_none, errW_some] <;> rfl) | (simp [*, errW_none, errW_some] <;> rfl), by repeat (first | (with_reducible first | exact HB.out | apply below_alloc | apply pw_below_drewN | apply below_drew1) | exact HB.out)⟩
      · rw [if_neg c7] at H
        exact absurd H (by simp)
    · rw [if_neg c4] at H
      have c4b0 : decide (a0 < 0) = false := decide_eq_false c4
      clear c4
      replace H := Option.bind_eq_some_iff.mp H
      obtain ⟨t266, A150, H⟩ := H
      replace H : ((kara_Steps.f k (wrap64 ((Int.tmod a0 20001) + 1))).bind fun t267 => (if t266 ≤ t267 then (if (Int.tmod a0 20001) < 12 then (some true) else (some (decide (t266 < (wrap64 ((Int.tmod a0 20001) * (Int.tmod a0 20001))))))) else (none))) = some r := H
      have A15 := Aside0.mk A150
      clear A150
      replace H := Option.bind_eq_some_iff.mp H
      obtain ⟨t267, A160, H⟩ := H
      replace H : (if t266 ≤ t267 then (if (Int.tmod a0 20001) < 12 then (some true) else (some (decide (t266 < (wrap64 ((Int.tmod a0 20001) * (Int.tmod a0 20001))))))) else (none)) = some r := H
      have A16 := Aside0.mk A160
      clear A160
      by_cases c17 : t266 ≤ t267
      · rw [if_pos c17] at H
        have c17b0 : decide (t266 ≤ t267) = true := decide_eq_true c17
        clear c17
        by_cases c18 : (Int.tmod a0 20001) < 12
        · rw [if_pos c18] at H
          have c18b0 : decide ((Int.tmod a0 20001) < 12) = true := decide_eq_true c18
          clear c18
          obtain rfl := Option.some.inj H
          go_enter Try.func3, Try.ntmps3
          go_wp2_with (first | ((with_reducible refine gate_callee (f := 8) rfl ?_); refine goesL_ (some 5) rfl rfl Try.func8 (by kernel_rfl) rfl #[] rfl (by (try simp only [List.map_toArray, List.map_cons, List.map_nil]); first | done | rfl | (simp only [List.length_drop, List.length_take]; rfl)) ?_; (with_reducible refine (astrolabelaw02_examples.calls k  true _ A2.out).mono ?_); rintro e w19 ⟨rfl, hb⟩; refine ⟨_, rfl, ?_⟩; have n0_ := Aside0.mk (below_step (by repeat (first | (with_reducible first | exact HB.out | apply below_alloc | apply pw_below_drewN | apply below_drew1) | exact HB.out)) hb); clear HB; have HB := n0_; clear n0_; (try clear hb); (try clear hb2); (try clear hk); (try clear hi)) | ((with_reducible refine gate_callee (f := 9) rfl ?_); refine goesL_ (some 16) rfl rfl Try.func9 (by kernel_rfl) rfl #[.int .i64 (Int.tmod a0 20001)] rfl (by (try simp only [List.map_toArray, List.map_cons, List.map_nil]); first | done | rfl | (simp only [List.length_drop, List.length_take]; rfl)) ?_; (with_reducible refine (kara_Steps.calls k (Int.tmod a0 20001) t266 _ A15.out).mono ?_); rintro e w20 ⟨rfl, hb⟩; refine ⟨_, rfl, ?_⟩; have n0_ := Aside0.mk (below_step (by repeat (first | (with_reducible first | exact HB.out | apply below_alloc | apply pw_below_drewN | apply below_drew1) | exact HB.out)) hb); clear HB; have HB := n0_; clear n0_; (try clear hb); (try clear hb2); (try clear hk); (try clear hi)) | (go_at_call 9; (with_reducible refine (kara_Steps.calls k (wrap64 ((Int.tmod a0 20001) + 1)) t267 _ A16.out).mono ?_); rintro e w21 ⟨rfl, hb⟩; have n0_ := Aside0.mk (below_step (by repeat (first | (with_reducible first | exact HB.out | apply below_alloc | apply pw_below_drewN | apply below_drew1) | exact HB.out)) hb); clear HB; have HB := n0_; clear n0_; (try clear hb); (try clear hb2); (try clear hk); (try clear hi)))
          go_ret
          exact ⟨by first | rfl | (simp [errW_none, errW_some] <;> rfl) | (simp [*, errW_none, errW_some] <;> rfl), by repeat (first | (with_reducible first | exact HB.out | apply below_alloc | apply pw_below_drewN | apply below_drew1) | exact HB.out)⟩
        · rw [if_neg c18] at H
          have c18b0 : decide ((Int.tmod a0 20001) < 12) = false := decide_eq_false c18
          clear c18
          obtain rfl := Option.some.inj H
          go_enter Try.func3, Try.ntmps3
          go_wp2_with (first | ((with_reducible refine gate_callee (f := 8) rfl ?_); refine goesL_ (some 5) rfl rfl Try.func8 (by kernel_rfl) rfl #[] rfl (by (try simp only [List.map_toArray, List.map_cons, List.map_nil]); first | done | rfl | (simp only [List.length_drop, List.length_take]; rfl)) ?_; (with_reducible refine (astrolabelaw02_examples.calls k  true _ A2.out).mono ?_); rintro e w22 ⟨rfl, hb⟩; refine ⟨_, rfl, ?_⟩; have n0_ := Aside0.mk (below_step (by repeat (first | (with_reducible first | exact HB.out | apply below_alloc | apply pw_below_drewN | apply below_drew1) | exact HB.out)) hb); clear HB; have HB := n0_; clear n0_; (try clear hb); (try clear hb2); (try clear hk); (try clear hi)) | ((with_reducible refine gate_callee (f := 9) rfl ?_); refine goesL_ (some 16) rfl rfl Try.func9 (by kernel_rfl) rfl #[.int .i64 (Int.tmod a0 20001)] rfl (by (try simp only [List.map_toArray, List.map_cons, List.map_nil]); first | done | rfl | (simp only [List.length_drop, List.length_take]; rfl)) ?_; (with_reducible refine (kara_Steps.calls k (Int.tmod a0 20001) t266 _ A15.out).mono ?_); rintro e w23 ⟨rfl, hb⟩; refine ⟨_, rfl, ?_⟩; have n0_ := Aside0.mk (below_step (by repeat (first | (with_reducible first | exact HB.out | apply below_alloc | apply pw_below_drewN | apply below_drew1) | exact HB.out)) hb); clear HB; have HB := n0_; clear n0_; (try clear hb); (try clear hb2); (try clear hk); (try clear hi)) | (go_at_call 9; (with_reducible refine (kara_Steps.calls k (wrap64 ((Int.tmod a0 20001) + 1)) t267 _ A16.out).mono ?_); rintro e w24 ⟨rfl, hb⟩; have n0_ := Aside0.mk (below_step (by repeat (first | (with_reducible first | exact HB.out | apply below_alloc | apply pw_below_drewN | apply below_drew1) | exact HB.out)) hb); clear HB; have HB := n0_; clear n0_; (try clear hb); (try clear hb2); (try clear hk); (try clear hi)))
          go_ret
          exact ⟨by first | rfl | (simp [errW_none, errW_some] <;> rfl) | (simp [*, errW_none, errW_some] <;> rfl), by repeat (first | (with_reducible first | exact HB.out | apply below_alloc | apply pw_below_drewN | apply below_drew1) | exact HB.out)⟩
      · rw [if_neg c17] at H
        exact absurd H (by simp)
  · replace c3 := Bool.eq_false_iff.mpr c3
    subst c3
    have H1 : (none) = some r := by rw [if_neg (show ¬ (false = true) by decide)] at H; exact H
    clear H
    have H := H1
    clear H1
    exact absurd H (by simp)

/-- THE ONE PURE STATEMENT of astrolabelaw02_KaraFewer: yours. -/
def astrolabelaw02_KaraFewer.Pure : Prop := ∀ (a0 : Int), (Lit.int .i64 a0).wf = true → ∃ k, astrolabelaw02_KaraFewer.f k a0 = some true
theorem astrolabelaw02_KaraFewer.walk (P : astrolabelaw02_KaraFewer.Pure) (a0 : Int) (w : World) (w0 : (Lit.int .i64 a0).wf = true) :
    Calls Try.prog 3 #[.int .i64 a0] w fun e w' => e = .returned (.bool true) ∧ Below w.heap.size w w' := by
  obtain ⟨k, h⟩ := P a0 w0
  refine (astrolabelaw02_KaraFewer.calls k a0 true w h).mono ?_
  rintro e w' ⟨rfl, hd⟩
  exact ⟨rfl, hd⟩

end Go.Proofs.Ytpodpfppbkjbcaa.P
