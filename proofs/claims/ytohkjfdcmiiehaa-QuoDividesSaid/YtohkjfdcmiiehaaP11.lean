/- What the Go functions of these names come to, as plain Lean functions, and the walks that show it. Written for this claim by a turned copy of the print program; Lean checks it. -/
import Derived.Test.YtohkjfdcmiiehaaP0
import Derived.Test.YtohkjfdcmiiehaaP1
import Derived.Test.YtohkjfdcmiiehaaP2
import Derived.Test.YtohkjfdcmiiehaaP3
import Derived.Test.YtohkjfdcmiiehaaP4
import Derived.Test.YtohkjfdcmiiehaaP8
import Derived.Test.YtohkjfdcmiiehaaP10
namespace Go.Proofs.Ytohkjfdcmiiehaa.P
open Go.RowKit Go.Proofs.YtohkjfdcmiiehaaW.PrintWords Go.Proofs.YtohkjfdcmiiehaaW.PrintLast Go.Proofs.YtohkjfdcmiiehaaW.PrintMore
attribute [local go_sem] max2_int min2_int max_two min_two max_three min_three max_four min_four   -- for this text's walks alone
set_option linter.unusedVariables false
set_option linter.unusedSimpArgs false

/-! ### quo_DivMod: function 12 -/
def quo_DivMod.f (k : Nat) (l0 : List Int) (l1 : List Int) : Option (List Int × List Int × Bool) := (nat_Trim.f k l1).bind fun t231 => ((nat_Trim.f k l0).bind fun t234 => (if (t231.length : Int) = 0 then (some (([] : List Int), ([] : List Int), false)) else ((nat_Cmp.f k t234 t231).bind fun t237 => (if t237 < 0 then (some (([] : List Int), t234, true)) else (if (t231.length : Int) = 1 then (if 0 < (t231.length : Int) then ((quo_short.f k t234 (rd t231 0)).bind fun bt239 => (some (bt239.1, bt239.2.1, bt239.2.2))) else (none)) else ((quo_long.f k t234 t231).bind fun bt246 => (some (bt246.1, bt246.2.1, bt246.2.2))))))))
theorem quo_DivMod.mono : ∀ a0 a1 k, LeO (quo_DivMod.f k a0 a1) (quo_DivMod.f (k + 1) a0 a1) := by
  intro a0 a1 k
  unfold quo_DivMod.f
  repeat' first
      | (with_reducible exact nat_Cmp.mono _ _ _)
      | (with_reducible exact nat_Trim.mono _ _)
      | (with_reducible exact quo_long.mono _ _ _)
      | (with_reducible exact quo_short.mono _ _ _)
      | (with_reducible exact LeO.refl _)
      | (with_reducible exact LeO.none _)
      | (with_reducible refine LeO.ite ?_ ?_)
      | (with_reducible refine LeO.bind ?_ (fun _ => ?_))
      | exact nat_Cmp.mono _ _ _
      | exact nat_Trim.mono _ _
      | exact quo_long.mono _ _ _
      | exact quo_short.mono _ _ _
      | exact LeO.none _
      | refine LeO.ite ?_ ?_
      | refine LeO.bind ?_ (fun _ => ?_)
set_option maxHeartbeats 8000000 in
set_option maxRecDepth 100000 in
theorem quo_DivMod.calls (k : Nat) (A0 : Option Addr) (c0 : Nat) (l0 : List Int) (A1 : Option Addr) (c1 : Nat) (l1 : List Int) (r1 : List Int) (r2 : List Int) (r3 : Bool) (w : World) (hr0 : Kd.C (Kd.int .u32) w A0 l0.length l0) (hc0 : l0.length ≤ c0) (hr1 : Kd.C (Kd.int .u32) w A1 l1.length l1) (hc1 : l1.length ≤ c1) (h : quo_DivMod.f k l0 l1 = some (r1, r2, r3)) :
    Calls Try.prog 12 #[.slice A0 l0.length c0, .slice A1 l1.length c1] w fun e w' => ∃ v0_ v1_ : Value, e = .returned (.tuple #[v0_, v1_, .bool r3]) ∧ Kd.R (Kd.int .u32) 37 w' w.heap.size (fun k_ => (w.heap.size ≤ k_)) v0_ r1 ∧ Kd.V (Kd.int .u32) 37 w' w.heap.size (fun k_ => (w.heap.size ≤ k_) ∧ some k_ ≠ (v0_ : Value).ownBlock) v1_ r2 ∧ Below w.heap.size w w' := by
  have HR0 := A0_ hr0
  have HC0 := A0_ hc0
  clear hr0 hc0
  have HR1 := A0_ hr1
  have HC1 := A0_ hc1
  clear hr1 hc1
  have HB := A0_ (Below.refl w.heap.size w)
  have H : ((nat_Trim.f k l1).bind fun t231 => ((nat_Trim.f k l0).bind fun t234 => (if (t231.length : Int) = 0 then (some (([] : List Int), ([] : List Int), false)) else ((nat_Cmp.f k t234 t231).bind fun t237 => (if t237 < 0 then (some (([] : List Int), t234, true)) else (if (t231.length : Int) = 1 then (if 0 < (t231.length : Int) then ((quo_short.f k t234 (rd t231 0)).bind fun bt239 => (some (bt239.1, bt239.2.1, bt239.2.2))) else (none)) else ((quo_long.f k t234 t231).bind fun bt246 => (some (bt246.1, bt246.2.1, bt246.2.2))))))))) = some (r1, r2, r3) := h
  clear h
  replace H := Option.bind_eq_some_iff.mp H
  obtain ⟨t231, A30, H⟩ := H
  (try dsimp only at H)
  have A3 := A0_ A30
  clear A30
  replace H := Option.bind_eq_some_iff.mp H
  obtain ⟨t234, A40, H⟩ := H
  (try dsimp only at H)
  have A4 := A0_ A40
  clear A40
  by_cases c5 : (t231.length : Int) = 0
  · rw [if_pos c5] at H
    have c5b0 : ((t231.length : Int) == 0) = true := beq_iff_eq.mpr c5
    have c5b1 : ((t231.length : Int) != 0) = false := bne_eq_false_iff_eq.mpr c5
    clear c5
    simp only [Option.some.injEq, Prod.mk.injEq] at H
    obtain ⟨rfl, rfl, rfl⟩ := H
    go_enter Try.func12, Try.ntmps12
    go_wp2_with (first | ((with_reducible refine gate_callee (f := 22) rfl ?_); refine goesM_ (some 8) Try.func22 #[.slice A1 l1.length c1] rfl ?_; (with_reducible refine (nat_Trim.calls k _ _ l1 t231 _ ?side1 ?side2 A3.out).mono ?_); (case side1 => exact mvC HR1.out); (case side2 => exact HC1.out); rintro e w6 ⟨v232, rfl, ho0, hb⟩; refine ⟨_, rfl, ?_⟩; have n0_ := A0_ (Kd.R_lower (Kd.R_newM (M := fun k_ => (w.heap.size ≤ k_)) ho0 (below_size bl_) (fun k_ h_ => h_)) (below_size bl_)); have n1_ := A0_ (below_step bl_ hb); clear HB; have HO233 := n0_; have HB := n1_; clear n0_ n1_; (try clear hb); (try clear hb2); (try clear hk); (try clear hi); (try clear ho0)) | ((with_reducible refine gate_callee (f := 22) rfl ?_); refine goesM_ (some 10) Try.func22 #[.slice A0 l0.length c0] rfl ?_; (with_reducible refine (nat_Trim.calls k _ _ l0 t234 _ ?side1 ?side2 A4.out).mono ?_); (case side1 => exact mvC (Kd.C_below HR0.out HB.out)); (case side2 => exact HC0.out); rintro e w7 ⟨v235, rfl, ho0, hb⟩; refine ⟨_, rfl, ?_⟩; have n0_ := A0_ (Kd.R_elder' (mvR HO233.out) (Kd.R_base ho0) hb); have n1_ := A0_ (Kd.R_lower (Kd.R_new' (Kd.R_newM (M := fun k_ => (w.heap.size ≤ k_)) ho0 (below_size bl_) (fun k_ h_ => h_)) (Kd.R_lt (mvR HO233.out))) (below_size bl_)); have n2_ := A0_ (below_step bl_ hb); clear HO233; clear HB; have HO233 := n0_; have HO236 := n1_; have HB := n2_; clear n0_ n1_ n2_; (try clear hb); (try clear hb2); (try clear hk); (try clear hi); (try clear ho0); obtain ⟨Ao8, co8, eo8⟩ := Kd.R_slice HO233.out; subst eo8))
    go_ret3
    exact ⟨(.slice none 0 0), (.slice none 0 0), by first | rfl | (simp [errW_none, errW_some] <;> rfl) | (simp [*, errW_none, errW_some] <;> rfl), by first | exact Kd.R_nil _ _ _ _ _ | exact Kd.N_nil _ _ _ _ _ | exact Kd.V_nil _ _ _ _ _ | exact Kd.Q_nil _ _ _ _ _ | exact Kd.S_nil _ _ _ _ _, (Kd.V_nil _ _ _ _ _), bl_⟩
  · rw [if_neg c5] at H
    have c5b0 : ((t231.length : Int) == 0) = false := beq_eq_false_iff_ne.mpr c5
    have c5b1 : ((t231.length : Int) != 0) = true := bne_iff_ne.mpr c5
    have c5b2 : ¬ (t231 = []) := fun h_ => c5 (by rw [h_]; rfl)
    replace H := Option.bind_eq_some_iff.mp H
    obtain ⟨t237, A90, H⟩ := H
    (try dsimp only at H)
    have A9 := A0_ A90
    clear A90
    by_cases c10 : t237 < 0
    · rw [if_pos c10] at H
      have c10b0 : decide (t237 < 0) = true := decide_eq_true c10
      clear c10
      simp only [Option.some.injEq, Prod.mk.injEq] at H
      obtain ⟨rfl, rfl, rfl⟩ := H
      go_enter Try.func12, Try.ntmps12
      go_wp2_with (first | ((with_reducible refine gate_callee (f := 22) rfl ?_); refine goesM_ (some 8) Try.func22 #[.slice A1 l1.length c1] rfl ?_; (with_reducible refine (nat_Trim.calls k _ _ l1 t231 _ ?side1 ?side2 A3.out).mono ?_); (case side1 => exact mvC HR1.out); (case side2 => exact HC1.out); rintro e w11 ⟨v232, rfl, ho0, hb⟩; refine ⟨_, rfl, ?_⟩; have n0_ := A0_ (Kd.R_lower (Kd.R_newM (M := fun k_ => (w.heap.size ≤ k_)) ho0 (below_size bl_) (fun k_ h_ => h_)) (below_size bl_)); have n1_ := A0_ (below_step bl_ hb); clear HB; have HO233 := n0_; have HB := n1_; clear n0_ n1_; (try clear hb); (try clear hb2); (try clear hk); (try clear hi); (try clear ho0)) | ((with_reducible refine gate_callee (f := 22) rfl ?_); refine goesM_ (some 10) Try.func22 #[.slice A0 l0.length c0] rfl ?_; (with_reducible refine (nat_Trim.calls k _ _ l0 t234 _ ?side1 ?side2 A4.out).mono ?_); (case side1 => exact mvC (Kd.C_below HR0.out HB.out)); (case side2 => exact HC0.out); rintro e w12 ⟨v235, rfl, ho0, hb⟩; refine ⟨_, rfl, ?_⟩; have n0_ := A0_ (Kd.R_elder' (mvR HO233.out) (Kd.R_base ho0) hb); have n1_ := A0_ (Kd.R_lower (Kd.R_new' (Kd.R_newM (M := fun k_ => (w.heap.size ≤ k_)) ho0 (below_size bl_) (fun k_ h_ => h_)) (Kd.R_lt (mvR HO233.out))) (below_size bl_)); have n2_ := A0_ (below_step bl_ hb); clear HO233; clear HB; have HO233 := n0_; have HO236 := n1_; have HB := n2_; clear n0_ n1_ n2_; (try clear hb); (try clear hb2); (try clear hk); (try clear hi); (try clear ho0); obtain ⟨Ao13, co13, eo13⟩ := Kd.R_slice HO233.out; subst eo13; obtain ⟨Ao14, co14, eo14⟩ := Kd.R_slice HO236.out; subst eo14) | ((with_reducible refine gate_callee (f := 23) rfl ?_); refine goesM_ (some 18) Try.func23 #[.slice Ao14 t234.length co14, .slice Ao13 t231.length co13] rfl ?_; (with_reducible refine (nat_Cmp.calls k _ _ t234 _ _ t231 t237 _ ?side1 ?side2 ?side3 ?side4 A9.out).mono ?_); (case side1 => exact mvC (Kd.R_reads' HO236.out).2.2); (case side2 => exact (Kd.R_reads' HO236.out).2.1); (case side3 => exact mvC (Kd.R_reads' HO233.out).2.2); (case side4 => exact (Kd.R_reads' HO233.out).2.1); rintro e w15 ⟨rfl, hb⟩; refine ⟨_, rfl, ?_⟩; have n0_ := A0_ (Kd.R_below (mvR HO233.out) hb); have n1_ := A0_ (Kd.R_below (mvR HO236.out) hb); have n2_ := A0_ (below_step bl_ hb); clear HO233; clear HO236; clear HB; have HO233 := n0_; have HO236 := n1_; have HB := n2_; clear n0_ n1_ n2_; (try clear hb); (try clear hb2); (try clear hk); (try clear hi)))
      go_ret3
      exact ⟨(.slice none 0 0), _, by first | rfl | (simp [errW_none, errW_some] <;> rfl) | (simp [*, errW_none, errW_some] <;> rfl), by first | exact Kd.R_nil _ _ _ _ _ | exact Kd.N_nil _ _ _ _ _ | exact Kd.V_nil _ _ _ _ _ | exact Kd.Q_nil _ _ _ _ _ | exact Kd.S_nil _ _ _ _ _, Kd.R_V (mvR (Kd.R_mono HO236.out (fun _ hk => ⟨hk.1.1, (by simp [Value.ownBlock])⟩))), bl_⟩
    · rw [if_neg c10] at H
      have c10b0 : decide (t237 < 0) = false := decide_eq_false c10
      clear c10
      by_cases c16 : (t231.length : Int) = 1
      · rw [if_pos c16] at H
        have c16b0 : ((t231.length : Int) == 1) = true := beq_iff_eq.mpr c16
        have c16b1 : ((t231.length : Int) != 1) = false := bne_eq_false_iff_eq.mpr c16
        clear c16
        by_cases c17 : 0 < (t231.length : Int)
        case neg => rw [if_neg c17] at H; exact absurd H (by simp)
        rw [if_pos c17] at H
        have c17b0 : decide (0 < (t231.length : Int)) = true := decide_eq_true c17
        have c17b1 : decide (0 < t231.length) = true := decide_eq_true (by omega)
        clear c17
        replace H := Option.bind_eq_some_iff.mp H
        obtain ⟨⟨t239, t242, t245⟩, A180, H⟩ := H
        (try dsimp only at H)
        have A18 := A0_ A180
        clear A180
        simp only [Option.some.injEq, Prod.mk.injEq] at H
        obtain ⟨rfl, rfl, rfl⟩ := H
        go_enter Try.func12, Try.ntmps12
        go_wp2_with (first | ((with_reducible refine gate_callee (f := 22) rfl ?_); refine goesM_ (some 8) Try.func22 #[.slice A1 l1.length c1] rfl ?_; (with_reducible refine (nat_Trim.calls k _ _ l1 t231 _ ?side1 ?side2 A3.out).mono ?_); (case side1 => exact mvC HR1.out); (case side2 => exact HC1.out); rintro e w19 ⟨v232, rfl, ho0, hb⟩; refine ⟨_, rfl, ?_⟩; have n0_ := A0_ (Kd.R_lower (Kd.R_newM (M := fun k_ => (w.heap.size ≤ k_)) ho0 (below_size bl_) (fun k_ h_ => h_)) (below_size bl_)); have n1_ := A0_ (below_step bl_ hb); clear HB; have HO233 := n0_; have HB := n1_; clear n0_ n1_; (try clear hb); (try clear hb2); (try clear hk); (try clear hi); (try clear ho0)) | ((with_reducible refine gate_callee (f := 22) rfl ?_); refine goesM_ (some 10) Try.func22 #[.slice A0 l0.length c0] rfl ?_; (with_reducible refine (nat_Trim.calls k _ _ l0 t234 _ ?side1 ?side2 A4.out).mono ?_); (case side1 => exact mvC (Kd.C_below HR0.out HB.out)); (case side2 => exact HC0.out); rintro e w20 ⟨v235, rfl, ho0, hb⟩; refine ⟨_, rfl, ?_⟩; have n0_ := A0_ (Kd.R_elder' (mvR HO233.out) (Kd.R_base ho0) hb); have n1_ := A0_ (Kd.R_lower (Kd.R_new' (Kd.R_newM (M := fun k_ => (w.heap.size ≤ k_)) ho0 (below_size bl_) (fun k_ h_ => h_)) (Kd.R_lt (mvR HO233.out))) (below_size bl_)); have n2_ := A0_ (below_step bl_ hb); clear HO233; clear HB; have HO233 := n0_; have HO236 := n1_; have HB := n2_; clear n0_ n1_ n2_; (try clear hb); (try clear hb2); (try clear hk); (try clear hi); (try clear ho0); obtain ⟨Ao21, co21, eo21⟩ := Kd.R_slice HO233.out; subst eo21; obtain ⟨Ao22, co22, eo22⟩ := Kd.R_slice HO236.out; subst eo22) | ((with_reducible refine gate_callee (f := 23) rfl ?_); refine goesM_ (some 18) Try.func23 #[.slice Ao22 t234.length co22, .slice Ao21 t231.length co21] rfl ?_; (with_reducible refine (nat_Cmp.calls k _ _ t234 _ _ t231 t237 _ ?side1 ?side2 ?side3 ?side4 A9.out).mono ?_); (case side1 => exact mvC (Kd.R_reads' HO236.out).2.2); (case side2 => exact (Kd.R_reads' HO236.out).2.1); (case side3 => exact mvC (Kd.R_reads' HO233.out).2.2); (case side4 => exact (Kd.R_reads' HO233.out).2.1); rintro e w23 ⟨rfl, hb⟩; refine ⟨_, rfl, ?_⟩; have n0_ := A0_ (Kd.R_below (mvR HO233.out) hb); have n1_ := A0_ (Kd.R_below (mvR HO236.out) hb); have n2_ := A0_ (below_step bl_ hb); clear HO233; clear HO236; clear HB; have HO233 := n0_; have HO236 := n1_; have HB := n2_; clear n0_ n1_ n2_; (try clear hb); (try clear hb2); (try clear hk); (try clear hi); have p238 : 0 ≤ (0 : Int) := (by omega); have q238 : 0 < (t231.length : Int) := od_; obtain ⟨ad238, e238, hx238_0⟩ := Kd.at_int (Kd.R_reads' HO233.out).2.2 0 p238 q238; cases e238; have qi238 : (0 < t231.length) = True := eq_true (by omega); (try rw [show ((0 : Int)).toNat = 0 from rfl] at hx238_0); (try rw [Addr.add_zero'] at hx238_0); replace p238 := eq_true p238; replace q238 := eq_true q238) | ((with_reducible refine gate_callee (f := 27) rfl ?_); refine goesM_ (some 29) Try.func27 #[.slice Ao22 t234.length co22, .int .u32 (rd t231 0)] rfl ?_; (with_reducible refine (quo_short.calls k _ _ t234 (rd t231 0) t239 t242 t245 _ ?side1 ?side2 A18.out).mono ?_); (case side1 => exact mvC (Kd.R_reads' HO236.out).2.2); (case side2 => exact (Kd.R_reads' HO236.out).2.1); rintro e w24 ⟨v240, v243, rfl, ho0, ho1, hb⟩; refine ⟨_, rfl, ?_⟩; have n0_ := A0_ (Kd.R_elder' (mvR HO233.out) (Kd.R_base ho0) hb); have n1_ := A0_ (Kd.R_elder' (mvR HO236.out) (Kd.R_base ho0) hb); have n2_ := A0_ (Kd.R_lower (Kd.R_new' (Kd.R_new' (Kd.R_newM (M := fun k_ => (w.heap.size ≤ k_)) (Kd.R_mono (ok' := fun k_ => True) ho0 (fun _ hk_ => trivial)) (below_size bl_) (fun k_ h_ => h_)) (Kd.R_lt (mvR HO233.out))) (Kd.R_lt (mvR HO236.out))) (below_size bl_)); have n3_ := A0_ (Kd.V_lower (Kd.V_mono (ok' := fun k_ => (w.heap.size ≤ k_) ∧ some k_ ≠ (v240 : Value).ownBlock ∧ some k_ ≠ (.slice (some ad238) t231.length co21 : Value).ownBlock ∧ some k_ ≠ (.slice Ao22 t234.length co22 : Value).ownBlock) ho1 (fun k_ hk_ => ⟨(Nat.le_trans (below_size bl_) hk_.1), hk_.2, (Kd.fresh' (Kd.R_lt (mvR HO233.out)) k_ hk_.1), (Kd.fresh' (Kd.R_lt (mvR HO236.out)) k_ hk_.1)⟩)) (below_size bl_)); have n4_ := A0_ (below_step bl_ hb); clear HO233; clear HO236; clear HB; have HO233 := n0_; have HO236 := n1_; have HO241 := n2_; have HO244 := n3_; have HB := n4_; clear n0_ n1_ n2_ n3_ n4_; (try clear hb); (try clear hb2); (try clear hk); (try clear hi); (try clear ho0); (try clear ho1)))
        go_ret3
        exact ⟨_, _, by first | rfl | (simp [errW_none, errW_some] <;> rfl) | (simp [*, errW_none, errW_some] <;> rfl), mvR (Kd.R_mono HO241.out (fun _ hk => hk.1.1.1)), mvV (Kd.V_mono HO244.out (fun _ hk => ⟨hk.1, hk.2.1⟩)), bl_⟩
      · rw [if_neg c16] at H
        have c16b0 : ((t231.length : Int) == 1) = false := beq_eq_false_iff_ne.mpr c16
        have c16b1 : ((t231.length : Int) != 1) = true := bne_iff_ne.mpr c16
        replace H := Option.bind_eq_some_iff.mp H
        obtain ⟨⟨t246, t249, t252⟩, A250, H⟩ := H
        (try dsimp only at H)
        have A25 := A0_ A250
        clear A250
        simp only [Option.some.injEq, Prod.mk.injEq] at H
        obtain ⟨rfl, rfl, rfl⟩ := H
        go_enter Try.func12, Try.ntmps12
        go_wp2_with (first | ((with_reducible refine gate_callee (f := 22) rfl ?_); refine goesM_ (some 8) Try.func22 #[.slice A1 l1.length c1] rfl ?_; (with_reducible refine (nat_Trim.calls k _ _ l1 t231 _ ?side1 ?side2 A3.out).mono ?_); (case side1 => exact mvC HR1.out); (case side2 => exact HC1.out); rintro e w26 ⟨v232, rfl, ho0, hb⟩; refine ⟨_, rfl, ?_⟩; have n0_ := A0_ (Kd.R_lower (Kd.R_newM (M := fun k_ => (w.heap.size ≤ k_)) ho0 (below_size bl_) (fun k_ h_ => h_)) (below_size bl_)); have n1_ := A0_ (below_step bl_ hb); clear HB; have HO233 := n0_; have HB := n1_; clear n0_ n1_; (try clear hb); (try clear hb2); (try clear hk); (try clear hi); (try clear ho0)) | ((with_reducible refine gate_callee (f := 22) rfl ?_); refine goesM_ (some 10) Try.func22 #[.slice A0 l0.length c0] rfl ?_; (with_reducible refine (nat_Trim.calls k _ _ l0 t234 _ ?side1 ?side2 A4.out).mono ?_); (case side1 => exact mvC (Kd.C_below HR0.out HB.out)); (case side2 => exact HC0.out); rintro e w27 ⟨v235, rfl, ho0, hb⟩; refine ⟨_, rfl, ?_⟩; have n0_ := A0_ (Kd.R_elder' (mvR HO233.out) (Kd.R_base ho0) hb); have n1_ := A0_ (Kd.R_lower (Kd.R_new' (Kd.R_newM (M := fun k_ => (w.heap.size ≤ k_)) ho0 (below_size bl_) (fun k_ h_ => h_)) (Kd.R_lt (mvR HO233.out))) (below_size bl_)); have n2_ := A0_ (below_step bl_ hb); clear HO233; clear HB; have HO233 := n0_; have HO236 := n1_; have HB := n2_; clear n0_ n1_ n2_; (try clear hb); (try clear hb2); (try clear hk); (try clear hi); (try clear ho0); obtain ⟨Ao28, co28, eo28⟩ := Kd.R_slice HO233.out; subst eo28; obtain ⟨Ao29, co29, eo29⟩ := Kd.R_slice HO236.out; subst eo29) | ((with_reducible refine gate_callee (f := 23) rfl ?_); refine goesM_ (some 18) Try.func23 #[.slice Ao29 t234.length co29, .slice Ao28 t231.length co28] rfl ?_; (with_reducible refine (nat_Cmp.calls k _ _ t234 _ _ t231 t237 _ ?side1 ?side2 ?side3 ?side4 A9.out).mono ?_); (case side1 => exact mvC (Kd.R_reads' HO236.out).2.2); (case side2 => exact (Kd.R_reads' HO236.out).2.1); (case side3 => exact mvC (Kd.R_reads' HO233.out).2.2); (case side4 => exact (Kd.R_reads' HO233.out).2.1); rintro e w30 ⟨rfl, hb⟩; refine ⟨_, rfl, ?_⟩; have n0_ := A0_ (Kd.R_below (mvR HO233.out) hb); have n1_ := A0_ (Kd.R_below (mvR HO236.out) hb); have n2_ := A0_ (below_step bl_ hb); clear HO233; clear HO236; clear HB; have HO233 := n0_; have HO236 := n1_; have HB := n2_; clear n0_ n1_ n2_; (try clear hb); (try clear hb2); (try clear hk); (try clear hi)) | ((with_reducible refine gate_callee (f := 28) rfl ?_); refine goesM_ (some 35) Try.func28 #[.slice Ao29 t234.length co29, .slice Ao28 t231.length co28] rfl ?_; (with_reducible refine (quo_long.calls k (fun k_ => some k_ = (.slice Ao29 t234.length co29 : Value).ownBlock) _ _ t234 (fun k_ => some k_ = (.slice Ao28 t231.length co28 : Value).ownBlock) _ _ t231 t246 t249 t252 _ ?side1 ?side2 A25.out).mono ?_); (case side1 => exact Kd.R_V (Kd.R_tight rfl (HO236.out))); (case side2 => exact Kd.R_V (Kd.R_tight rfl (HO233.out))); rintro e w31 ⟨v247, v250, rfl, ho0, ho1, hb⟩; refine ⟨_, rfl, ?_⟩; have n0_ := A0_ (Kd.R_elder' (mvR HO233.out) (Kd.R_base ho0) hb); have n1_ := A0_ (Kd.R_elder' (mvR HO236.out) (Kd.R_base ho0) hb); have n2_ := A0_ (Kd.R_lower (Kd.R_new' (Kd.R_new' (Kd.R_newM (M := fun k_ => (w.heap.size ≤ k_)) (Kd.R_mono (ok' := fun k_ => True) ho0 (fun _ hk_ => trivial)) (below_size bl_) (fun k_ h_ => h_)) (Kd.R_lt (mvR HO233.out))) (Kd.R_lt (mvR HO236.out))) (below_size bl_)); have n3_ := A0_ (Kd.V_lower (Kd.V_mono (ok' := fun k_ => (w.heap.size ≤ k_) ∧ some k_ ≠ (v247 : Value).ownBlock) ho1 (fun k_ hk_ => ⟨Or.elim hk_.1 (fun hs_ => Or.elim hs_ (fun hs_ => ((HO236.out).1 k_ hs_.symm).1.1) (fun hs_ => ((HO233.out).1 k_ hs_.symm).1.1)) (fun hn_ => (Nat.le_trans (below_size bl_) hn_)), hk_.2⟩)) (below_size bl_)); have n4_ := A0_ (below_step bl_ hb); clear HO233; clear HO236; clear HB; have HO233 := n0_; have HO236 := n1_; have HO248 := n2_; have HO251 := n3_; have HB := n4_; clear n0_ n1_ n2_ n3_ n4_; (try clear hb); (try clear hb2); (try clear hk); (try clear hi); (try clear ho0); (try clear ho1)))
        go_ret3
        exact ⟨_, _, by first | rfl | (simp [errW_none, errW_some] <;> rfl) | (simp [*, errW_none, errW_some] <;> rfl), mvR (Kd.R_mono HO248.out (fun _ hk => hk.1.1.1)), mvV HO251.out, bl_⟩

/-! ### quo_Gcd: function 15 -/
def quo_Gcd.l0 : Nat → List Int → List Int → Option (List Int)
  | 0, _, _ => none
  | k + 1, x0, x1 => if (x1.length : Int) > 0 then ((quo_DivMod.f k x0 x1).bind fun bt261 => (quo_Gcd.l0 k x1 bt261.2.1)) else (some x0)
def quo_Gcd.f (k : Nat) (l0 : List Int) (l1 : List Int) : Option (List Int) := (nat_Trim.f k l0).bind fun t255 => ((nat_Trim.f k l1).bind fun t258 => (quo_Gcd.l0 k t255 t258))
theorem quo_Gcd.mono_l : ∀ k, (∀ y0 y1, LeO (quo_Gcd.l0 k y0 y1) (quo_Gcd.l0 (k + 1) y0 y1))
  | 0 => fun _ _ r h => by simp [quo_Gcd.l0] at h
  | k + 1 => by
    have ih0 := quo_Gcd.mono_l k
    · intro y0 y1
      unfold quo_Gcd.l0
      repeat' first
      | (with_reducible exact ih0 _ _)
      | (with_reducible exact nat_Trim.mono _ _)
      | (with_reducible exact quo_DivMod.mono _ _ _)
      | (with_reducible exact LeO.refl _)
      | (with_reducible exact LeO.none _)
      | (with_reducible refine LeO.ite ?_ ?_)
      | (with_reducible refine LeO.bind ?_ (fun _ => ?_))
      | exact ih0 _ _
      | exact nat_Trim.mono _ _
      | exact quo_DivMod.mono _ _ _
      | exact LeO.none _
      | refine LeO.ite ?_ ?_
      | refine LeO.bind ?_ (fun _ => ?_)
theorem quo_Gcd.mono : ∀ a0 a1 k, LeO (quo_Gcd.f k a0 a1) (quo_Gcd.f (k + 1) a0 a1) := by
  intro a0 a1 k
  have ih0 := quo_Gcd.mono_l k
  unfold quo_Gcd.f
  repeat' first
      | (with_reducible exact ih0 _ _)
      | (with_reducible exact nat_Trim.mono _ _)
      | (with_reducible exact quo_DivMod.mono _ _ _)
      | (with_reducible exact LeO.refl _)
      | (with_reducible exact LeO.none _)
      | (with_reducible refine LeO.ite ?_ ?_)
      | (with_reducible refine LeO.bind ?_ (fun _ => ?_))
      | exact ih0 _ _
      | exact nat_Trim.mono _ _
      | exact quo_DivMod.mono _ _ _
      | exact LeO.none _
      | refine LeO.ite ?_ ?_
      | refine LeO.bind ?_ (fun _ => ?_)
set_option maxHeartbeats 8000000 in
set_option maxRecDepth 100000 in
theorem quo_Gcd.calls (k : Nat) (A0 : Option Addr) (c0 : Nat) (l0 : List Int) (A1 : Option Addr) (c1 : Nat) (l1 : List Int) (r : List Int) (w : World) (hr0 : Kd.C (Kd.int .u32) w A0 l0.length l0) (hc0 : l0.length ≤ c0) (hr1 : Kd.C (Kd.int .u32) w A1 l1.length l1) (hc1 : l1.length ≤ c1) (h : quo_Gcd.f k l0 l1 = some r) :
    Calls Try.prog 15 #[.slice A0 l0.length c0, .slice A1 l1.length c1] w fun e w' => ∃ v0_ : Value, e = .returned (v0_) ∧ Kd.V (Kd.int .u32) 37 w' w.heap.size (fun k_ => (w.heap.size ≤ k_)) v0_ r ∧ Below w.heap.size w w' := by
  have HR0 := A0_ hr0
  have HC0 := A0_ hc0
  clear hr0 hc0
  have HR1 := A0_ hr1
  have HC1 := A0_ hc1
  clear hr1 hc1
  have HB := A0_ (Below.refl w.heap.size w)
  have H : ((nat_Trim.f k l0).bind fun t255 => ((nat_Trim.f k l1).bind fun t258 => (quo_Gcd.l0 k t255 t258))) = some r := h
  clear h
  replace H := Option.bind_eq_some_iff.mp H
  obtain ⟨t255, A30, H⟩ := H
  (try dsimp only at H)
  have A3 := A0_ A30
  clear A30
  replace H := Option.bind_eq_some_iff.mp H
  obtain ⟨t258, A40, H⟩ := H
  (try dsimp only at H)
  have A4 := A0_ A40
  clear A40
  have H' := A0_ H
  clear H
  go_enter Try.func15, Try.ntmps15
  go_wp2_with (first | ((with_reducible refine gate_callee (f := 22) rfl ?_); refine goesM_ (some 9) Try.func22 #[.slice A0 l0.length c0] rfl ?_; (with_reducible refine (nat_Trim.calls k _ _ l0 t255 _ ?side1 ?side2 A3.out).mono ?_); (case side1 => exact mvC HR0.out); (case side2 => exact HC0.out); rintro e w5 ⟨v256, rfl, ho0, hb⟩; refine ⟨_, rfl, ?_⟩; have n0_ := A0_ (Kd.R_lower (Kd.R_newM (M := fun k_ => (w.heap.size ≤ k_)) ho0 (below_size bl_) (fun k_ h_ => h_)) (below_size bl_)); have n1_ := A0_ (below_step bl_ hb); clear HB; have HO257 := n0_; have HB := n1_; clear n0_ n1_; (try clear hb); (try clear hb2); (try clear hk); (try clear hi); (try clear ho0)) | ((with_reducible refine gate_callee (f := 22) rfl ?_); refine goesM_ (some 11) Try.func22 #[.slice A1 l1.length c1] rfl ?_; (with_reducible refine (nat_Trim.calls k _ _ l1 t258 _ ?side1 ?side2 A4.out).mono ?_); (case side1 => exact mvC (Kd.C_below HR1.out HB.out)); (case side2 => exact HC1.out); rintro e w6 ⟨v259, rfl, ho0, hb⟩; refine ⟨_, rfl, ?_⟩; have n0_ := A0_ (Kd.R_elder' (mvR HO257.out) (Kd.R_base ho0) hb); have n1_ := A0_ (Kd.R_lower (Kd.R_new' (Kd.R_newM (M := fun k_ => (w.heap.size ≤ k_)) ho0 (below_size bl_) (fun k_ h_ => h_)) (Kd.R_lt (mvR HO257.out))) (below_size bl_)); have n2_ := A0_ (below_step bl_ hb); clear HO257; clear HB; have HO257 := n0_; have HO260 := n1_; have HB := n2_; clear n0_ n1_ n2_; (try clear hb); (try clear hb2); (try clear hk); (try clear hi); (try clear ho0)))
  go_loopg [0, 1] k (fun kq v0 v1 w' => ∃ (x0_1 : List Int) (x1_1 : List Int), Aside0 (quo_Gcd.l0 kq x0_1 x1_1 = some r) ∧ Aside0 (kq ≤ k) ∧ Aside0 (Kd.V (Kd.int .u32) 37 w' w.heap.size (fun k_ => (w.heap.size ≤ k_)) v0 x0_1) ∧ Aside0 (Kd.V (Kd.int .u32) 37 w' w.heap.size (fun k_ => (w.heap.size ≤ k_)) v1 x1_1) ∧ Aside0 (Below w.heap.size w w'))
  case atStart => exact ⟨(t255), (t258), H', ⟨Nat.le_refl _⟩, ⟨Kd.R_V (mvR (Kd.R_mono HO257.out (fun _ hk => hk.1.1)))⟩, ⟨Kd.R_V (mvR (Kd.R_mono HO260.out (fun _ hk => hk.1.1)))⟩, ⟨bl_⟩⟩
  case round =>
    clear H'
    (try clear c1); (try clear c2); (try clear p2)
    obtain ⟨x0_1, x1_1, HA, HK1, HO_0, HO_1, HB⟩ := hrel
    cases gk with
    | zero => exact absurd HA.out (by simp [quo_Gcd.l0])
    | succ k1 =>
      have H := HA.out
      clear HA
      simp only [quo_Gcd.l0] at H
      by_cases c7 : (x1_1.length : Int) > 0
      · rw [if_pos c7] at H
        have c7b0 : decide (0 < (x1_1.length : Int)) = true := decide_eq_true c7
        have c7b1 : decide (0 < x1_1.length) = true := decide_eq_true (by omega)
        clear c7
        replace H := Option.bind_eq_some_iff.mp H
        obtain ⟨⟨t261, t264, t267⟩, A80, H⟩ := H
        (try dsimp only at H)
        have A8 := A0_ A80
        clear A80
        have H' := A0_ H
        clear H
        obtain ⟨Ao9, co9, eo9⟩ := Kd.V_slice HO_1.out
        subst eo9
        obtain ⟨Ao10, co10, eo10⟩ := Kd.V_slice HO_0.out
        subst eo10
        go_wp2_with (first | ((with_reducible refine gate_callee (f := 12) rfl ?_); refine goesM_ (some 18) Try.func12 #[.slice Ao10 x0_1.length co10, .slice Ao9 x1_1.length co9] rfl ?_; (with_reducible refine (quo_DivMod.calls k1 _ _ x0_1 _ _ x1_1 t261 t264 t267 _ ?side1 ?side2 ?side3 ?side4 A8.out).mono ?_); (case side1 => exact mvC (Kd.V_reads' HO_0.out).2.2); (case side2 => exact (Kd.V_reads' HO_0.out).2.1); (case side3 => exact mvC (Kd.V_reads' HO_1.out).2.2); (case side4 => exact (Kd.V_reads' HO_1.out).2.1); rintro e w11 ⟨v262, v265, rfl, ho0, ho1, hb⟩; refine ⟨_, rfl, ?_⟩; have n0_ := A0_ (Kd.V_elder' (mvV HO_0.out) (Kd.R_base ho0) hb); have n1_ := A0_ (Kd.V_elder' (mvV HO_1.out) (Kd.R_base ho0) hb); have n2_ := A0_ (Kd.R_lower (Kd.R_newM (M := fun k_ => (w.heap.size ≤ k_)) (Kd.R_mono (ok' := fun k_ => True) ho0 (fun _ hk_ => trivial)) (below_size bl_) (fun k_ h_ => h_)) (below_size bl_)); have n3_ := A0_ (Kd.V_lower (Kd.V_mono (ok' := fun k_ => (w.heap.size ≤ k_) ∧ some k_ ≠ (v262 : Value).ownBlock) ho1 (fun k_ hk_ => ⟨(Nat.le_trans (below_size bl_) hk_.1), hk_.2⟩)) (below_size bl_)); have n4_ := A0_ (below_step bl_ hb); clear HO_0; clear HO_1; clear HB; have HO_0 := n0_; have HO_1 := n1_; have HO263 := n2_; have HO266 := n3_; have HB := n4_; clear n0_ n1_ n2_ n3_ n4_; (try clear hb); (try clear hb2); (try clear hk); (try clear hi); (try clear ho0); (try clear ho1)))
        go_roundg k1
        case measure => have := HK1.out; omega
        case rel => exact ⟨(x1_1), (t264), H', ⟨by have := HK1.out; omega⟩, ⟨mvV (Kd.V_mono HO_1.out (fun _ hk => hk.1))⟩, ⟨mvV (Kd.V_mono HO266.out (fun _ hk => hk.1))⟩, ⟨bl_⟩⟩
      · rw [if_neg c7] at H
        have c7b0 : decide (0 < (x1_1.length : Int)) = false := decide_eq_false c7
        have c7b1 : decide (0 < x1_1.length) = false := decide_eq_false (by omega)
        clear c7
        obtain rfl := Option.some.inj H
        obtain ⟨Ao12, co12, eo12⟩ := Kd.V_slice HO_1.out
        subst eo12
        go_wp2
        go_ret
        exact ⟨_, by first | rfl | (simp [errW_none, errW_some] <;> rfl) | (simp [*, errW_none, errW_some] <;> rfl), mvV HO_0.out, bl_⟩

/-! ### quo_Sqrt: function 17 -/
def quo_Sqrt.l0 : Nat → List Int → List Int → Option (List Int × List Int)
  | 0, _, _ => none
  | k + 1, x0, x2 => (quo_DivMod.f k x0 x2).bind fun bt338 => ((nat_Add.f k x2 bt338.1).bind fun t345 => ((nat_Shr.f k t345 1).bind fun t348 => ((nat_Cmp.f k t348 x2).bind fun t351 => (if t351 ≥ 0 then ((nat_Mul.f k x2 x2).bind fun t352 => ((nat_Sub.f k x0 t352).bind fun bt355 => (some (x2, bt355.1)))) else (quo_Sqrt.l0 k x0 t348)))))
def quo_Sqrt.f (k : Nat) (l0 : List Int) : Option (List Int × List Int) := (nat_Trim.f k l0).bind fun t327 => (if (t327.length : Int) = 0 then (some (([] : List Int), ([] : List Int))) else ((nat_From.f k 1).bind fun t330 => ((nat_Bits.f k t327).bind fun t333 => ((nat_Shl.f k t330 (wrap64 (Int.tdiv (wrap64 (t333 + 1)) 2))).bind fun bt334 => (quo_Sqrt.l0 k t327 bt334.1)))))
theorem quo_Sqrt.mono_l : ∀ k, (∀ y0 y1, LeO (quo_Sqrt.l0 k y0 y1) (quo_Sqrt.l0 (k + 1) y0 y1))
  | 0 => fun _ _ r h => by simp [quo_Sqrt.l0] at h
  | k + 1 => by
    have ih0 := quo_Sqrt.mono_l k
    · intro y0 y1
      unfold quo_Sqrt.l0
      repeat' first
      | (with_reducible exact ih0 _ _)
      | (with_reducible exact nat_Add.mono _ _ _)
      | (with_reducible exact nat_Bits.mono _ _)
      | (with_reducible exact nat_Cmp.mono _ _ _)
      | (with_reducible exact nat_From.mono _ _)
      | (with_reducible exact nat_Mul.mono _ _ _)
      | (with_reducible exact nat_Shl.mono _ _ _)
      | (with_reducible exact nat_Shr.mono _ _ _)
      | (with_reducible exact nat_Sub.mono _ _ _)
      | (with_reducible exact nat_Trim.mono _ _)
      | (with_reducible exact quo_DivMod.mono _ _ _)
      | (with_reducible exact LeO.refl _)
      | (with_reducible exact LeO.none _)
      | (with_reducible refine LeO.ite ?_ ?_)
      | (with_reducible refine LeO.bind ?_ (fun _ => ?_))
      | exact ih0 _ _
      | exact nat_Add.mono _ _ _
      | exact nat_Bits.mono _ _
      | exact nat_Cmp.mono _ _ _
      | exact nat_From.mono _ _
      | exact nat_Mul.mono _ _ _
      | exact nat_Shl.mono _ _ _
      | exact nat_Shr.mono _ _ _
      | exact nat_Sub.mono _ _ _
      | exact nat_Trim.mono _ _
      | exact quo_DivMod.mono _ _ _
      | exact LeO.none _
      | refine LeO.ite ?_ ?_
      | refine LeO.bind ?_ (fun _ => ?_)
theorem quo_Sqrt.mono : ∀ a0 k, LeO (quo_Sqrt.f k a0) (quo_Sqrt.f (k + 1) a0) := by
  intro a0 k
  have ih0 := quo_Sqrt.mono_l k
  unfold quo_Sqrt.f
  repeat' first
      | (with_reducible exact ih0 _ _)
      | (with_reducible exact nat_Add.mono _ _ _)
      | (with_reducible exact nat_Bits.mono _ _)
      | (with_reducible exact nat_Cmp.mono _ _ _)
      | (with_reducible exact nat_From.mono _ _)
      | (with_reducible exact nat_Mul.mono _ _ _)
      | (with_reducible exact nat_Shl.mono _ _ _)
      | (with_reducible exact nat_Shr.mono _ _ _)
      | (with_reducible exact nat_Sub.mono _ _ _)
      | (with_reducible exact nat_Trim.mono _ _)
      | (with_reducible exact quo_DivMod.mono _ _ _)
      | (with_reducible exact LeO.refl _)
      | (with_reducible exact LeO.none _)
      | (with_reducible refine LeO.ite ?_ ?_)
      | (with_reducible refine LeO.bind ?_ (fun _ => ?_))
      | exact ih0 _ _
      | exact nat_Add.mono _ _ _
      | exact nat_Bits.mono _ _
      | exact nat_Cmp.mono _ _ _
      | exact nat_From.mono _ _
      | exact nat_Mul.mono _ _ _
      | exact nat_Shl.mono _ _ _
      | exact nat_Shr.mono _ _ _
      | exact nat_Sub.mono _ _ _
      | exact nat_Trim.mono _ _
      | exact quo_DivMod.mono _ _ _
      | exact LeO.none _
      | refine LeO.ite ?_ ?_
      | refine LeO.bind ?_ (fun _ => ?_)
set_option maxHeartbeats 8000000 in
set_option maxRecDepth 100000 in
theorem quo_Sqrt.calls (k : Nat) (A0 : Option Addr) (c0 : Nat) (l0 : List Int) (r1 : List Int) (r2 : List Int) (w : World) (hr0 : Kd.C (Kd.int .u32) w A0 l0.length l0) (hc0 : l0.length ≤ c0) (h : quo_Sqrt.f k l0 = some (r1, r2)) :
    Calls Try.prog 17 #[.slice A0 l0.length c0] w fun e w' => ∃ v0_ v1_ : Value, e = .returned (.tuple #[v0_, v1_]) ∧ Kd.V (Kd.int .u32) 37 w' w.heap.size (fun k_ => (w.heap.size ≤ k_)) v0_ r1 ∧ Kd.V (Kd.int .u32) 37 w' w.heap.size (fun k_ => (w.heap.size ≤ k_)) v1_ r2 ∧ Below w.heap.size w w' := by
  have HR0 := A0_ hr0
  have HC0 := A0_ hc0
  clear hr0 hc0
  have HB := A0_ (Below.refl w.heap.size w)
  have H : ((nat_Trim.f k l0).bind fun t327 => (if (t327.length : Int) = 0 then (some (([] : List Int), ([] : List Int))) else ((nat_From.f k 1).bind fun t330 => ((nat_Bits.f k t327).bind fun t333 => ((nat_Shl.f k t330 (wrap64 (Int.tdiv (wrap64 (t333 + 1)) 2))).bind fun bt334 => (quo_Sqrt.l0 k t327 bt334.1)))))) = some (r1, r2) := h
  clear h
  replace H := Option.bind_eq_some_iff.mp H
  obtain ⟨t327, A20, H⟩ := H
  (try dsimp only at H)
  have A2 := A0_ A20
  clear A20
  by_cases c3 : (t327.length : Int) = 0
  · rw [if_pos c3] at H
    have c3b0 : ((t327.length : Int) == 0) = true := beq_iff_eq.mpr c3
    have c3b1 : ((t327.length : Int) != 0) = false := bne_eq_false_iff_eq.mpr c3
    clear c3
    simp only [Option.some.injEq, Prod.mk.injEq] at H
    obtain ⟨rfl, rfl⟩ := H
    go_enter Try.func17, Try.ntmps17
    go_wp2_with (first | ((with_reducible refine gate_callee (f := 22) rfl ?_); refine goesM_ (some 9) Try.func22 #[.slice A0 l0.length c0] rfl ?_; (with_reducible refine (nat_Trim.calls k _ _ l0 t327 _ ?side1 ?side2 A2.out).mono ?_); (case side1 => exact mvC HR0.out); (case side2 => exact HC0.out); rintro e w4 ⟨v328, rfl, ho0, hb⟩; refine ⟨_, rfl, ?_⟩; have n0_ := A0_ (Kd.R_lower (Kd.R_newM (M := fun k_ => (w.heap.size ≤ k_)) ho0 (below_size bl_) (fun k_ h_ => h_)) (below_size bl_)); have n1_ := A0_ (below_step bl_ hb); clear HB; have HO329 := n0_; have HB := n1_; clear n0_ n1_; (try clear hb); (try clear hb2); (try clear hk); (try clear hi); (try clear ho0); obtain ⟨Ao5, co5, eo5⟩ := Kd.R_slice HO329.out; subst eo5))
    go_ret2
    exact ⟨(.slice none 0 0), (.slice none 0 0), by first | rfl | (simp [errW_none, errW_some] <;> rfl) | (simp [*, errW_none, errW_some] <;> rfl), (Kd.V_nil _ _ _ _ _), (Kd.V_nil _ _ _ _ _), bl_⟩
  · rw [if_neg c3] at H
    have c3b0 : ((t327.length : Int) == 0) = false := beq_eq_false_iff_ne.mpr c3
    have c3b1 : ((t327.length : Int) != 0) = true := bne_iff_ne.mpr c3
    have c3b2 : ¬ (t327 = []) := fun h_ => c3 (by rw [h_]; rfl)
    replace H := Option.bind_eq_some_iff.mp H
    obtain ⟨t330, A60, H⟩ := H
    (try dsimp only at H)
    have A6 := A0_ A60
    clear A60
    replace H := Option.bind_eq_some_iff.mp H
    obtain ⟨t333, A70, H⟩ := H
    (try dsimp only at H)
    have A7 := A0_ A70
    clear A70
    replace H := Option.bind_eq_some_iff.mp H
    obtain ⟨⟨t334, t337⟩, A80, H⟩ := H
    (try dsimp only at H)
    have A8 := A0_ A80
    clear A80
    have H' := A0_ H
    clear H
    go_enter Try.func17, Try.ntmps17
    go_wp2_with (first | ((with_reducible refine gate_callee (f := 22) rfl ?_); refine goesM_ (some 9) Try.func22 #[.slice A0 l0.length c0] rfl ?_; (with_reducible refine (nat_Trim.calls k _ _ l0 t327 _ ?side1 ?side2 A2.out).mono ?_); (case side1 => exact mvC HR0.out); (case side2 => exact HC0.out); rintro e w9 ⟨v328, rfl, ho0, hb⟩; refine ⟨_, rfl, ?_⟩; have n0_ := A0_ (Kd.R_lower (Kd.R_newM (M := fun k_ => (w.heap.size ≤ k_)) ho0 (below_size bl_) (fun k_ h_ => h_)) (below_size bl_)); have n1_ := A0_ (below_step bl_ hb); clear HB; have HO329 := n0_; have HB := n1_; clear n0_ n1_; (try clear hb); (try clear hb2); (try clear hk); (try clear hi); (try clear ho0); obtain ⟨Ao10, co10, eo10⟩ := Kd.R_slice HO329.out; subst eo10) | ((with_reducible refine gate_callee (f := 38) rfl ?_); refine goesM_ (some 14) Try.func38 #[.int .u64 1] rfl ?_; (with_reducible refine (nat_From.calls k 1 t330 _ A6.out).mono ?_); rintro e w11 ⟨v331, rfl, ho0, hb⟩; refine ⟨_, rfl, ?_⟩; have n0_ := A0_ (Kd.R_below (mvR HO329.out) hb); have n1_ := A0_ (Kd.V_lower (Kd.V_mono (ok' := fun k_ => (w.heap.size ≤ k_) ∧ some k_ ≠ (.slice Ao10 t327.length co10 : Value).ownBlock) ho0 (fun k_ hk_ => ⟨(Nat.le_trans (below_size bl_) hk_), (Kd.fresh' (Kd.R_lt (mvR HO329.out)) k_ hk_)⟩)) (below_size bl_)); have n2_ := A0_ (below_step bl_ hb); clear HO329; clear HB; have HO329 := n0_; have HO332 := n1_; have HB := n2_; clear n0_ n1_ n2_; (try clear hb); (try clear hb2); (try clear hk); (try clear hi); (try clear ho0)) | ((with_reducible refine gate_callee (f := 19) rfl ?_); refine goesM_ (some 16) Try.func19 #[.slice Ao10 t327.length co10] rfl ?_; (with_reducible refine (nat_Bits.calls k _ _ t327 t333 _ ?side1 ?side2 A7.out).mono ?_); (case side1 => exact mvC (Kd.R_reads' HO329.out).2.2); (case side2 => exact (Kd.R_reads' HO329.out).2.1); rintro e w12 ⟨rfl, hb⟩; refine ⟨_, rfl, ?_⟩; have n0_ := A0_ (Kd.R_below (mvR HO329.out) hb); have n1_ := A0_ (Kd.V_below (mvV HO332.out) hb); have n2_ := A0_ (below_step bl_ hb); clear HO329; clear HO332; clear HB; have HO329 := n0_; have HO332 := n1_; have HB := n2_; clear n0_ n1_ n2_; (try clear hb); (try clear hb2); (try clear hk); (try clear hi); obtain ⟨Ao13, co13, eo13⟩ := Kd.V_slice HO332.out; subst eo13) | ((with_reducible refine gate_callee (f := 24) rfl ?_); refine goesM_ (some 19) Try.func24 #[.slice Ao13 t330.length co13, .int .i64 (wrap64 (Int.tdiv (wrap64 (t333 + 1)) 2))] rfl ?_; (with_reducible refine (nat_Shl.calls k (fun k_ => ((w.heap.size ≤ k_) ∧ some k_ ≠ (.slice Ao10 t327.length co10 : Value).ownBlock)) _ _ t330 (wrap64 (Int.tdiv (wrap64 (t333 + 1)) 2)) t334 t337 _ ?side1 A8.out).mono ?_); (case side1 => exact HO332.out); rintro e w14 ⟨v335, rfl, ho0, hb⟩; refine ⟨_, rfl, ?_⟩; have n0_ := A0_ (Kd.R_below (mvR HO329.out) hb); have n1_ := A0_ (Kd.V_below (mvV HO332.out) hb); have n2_ := A0_ (Kd.V_lower (Kd.V_mono (ok' := fun k_ => (w.heap.size ≤ k_) ∧ some k_ ≠ (.slice Ao10 t327.length co10 : Value).ownBlock) ho0 (fun k_ hk_ => ⟨Or.elim hk_ (fun hs_ => hs_.1) (fun hn_ => (Nat.le_trans (below_size bl_) hn_)), Or.elim hk_ (fun hs_ => hs_.2) (fun hn_ => (Kd.fresh' (Kd.R_lt (mvR HO329.out)) k_ hn_))⟩)) (below_size bl_)); have n3_ := A0_ (below_step bl_ hb); clear HO329; clear HO332; clear HB; have HO329 := n0_; have HO332 := n1_; have HO336 := n2_; have HB := n3_; clear n0_ n1_ n2_ n3_; (try clear hb); (try clear hb2); (try clear hk); (try clear hi); (try clear ho0)))
    go_loopg [2] k (fun kq v2 w' => ∃ (x2_1 : List Int), Aside0 (quo_Sqrt.l0 kq t327 x2_1 = some (r1, r2)) ∧ Aside0 (kq ≤ k) ∧ Aside0 (Kd.R (Kd.int .u32) 37 w' w.heap.size (fun k_ => (w.heap.size ≤ k_)) (.slice Ao10 t327.length co10) t327) ∧ Aside0 (Kd.V (Kd.int .u32) 37 w' w.heap.size (fun k_ => (w.heap.size ≤ k_) ∧ some k_ ≠ ((.slice Ao10 t327.length co10) : Value).ownBlock) v2 x2_1) ∧ Aside0 (Below w.heap.size w w'))
    case atStart => exact ⟨(t334), H', ⟨Nat.le_refl _⟩, ⟨mvR (Kd.R_mono HO329.out (fun _ hk => hk.1))⟩, ⟨mvV HO336.out⟩, ⟨bl_⟩⟩
    case round =>
      clear H'
      (try clear c1); (try clear c2); (try clear p2); (try clear c3); (try clear c3b0); (try clear c3b1); (try clear c3b2); (try clear p6)
      obtain ⟨x2_1, HA, HK1, HO_0, HO_2, HB⟩ := hrel
      cases gk with
      | zero => exact absurd HA.out (by simp [quo_Sqrt.l0])
      | succ k1 =>
        have H := HA.out
        clear HA
        simp only [quo_Sqrt.l0] at H
        replace H := Option.bind_eq_some_iff.mp H
        obtain ⟨⟨t338, t341, t344⟩, A150, H⟩ := H
        (try dsimp only at H)
        have A15 := A0_ A150
        clear A150
        replace H := Option.bind_eq_some_iff.mp H
        obtain ⟨t345, A160, H⟩ := H
        (try dsimp only at H)
        have A16 := A0_ A160
        clear A160
        replace H := Option.bind_eq_some_iff.mp H
        obtain ⟨t348, A170, H⟩ := H
        (try dsimp only at H)
        have A17 := A0_ A170
        clear A170
        replace H := Option.bind_eq_some_iff.mp H
        obtain ⟨t351, A180, H⟩ := H
        (try dsimp only at H)
        have A18 := A0_ A180
        clear A180
        by_cases c19 : t351 ≥ 0
        · rw [if_pos c19] at H
          have c19b0 : decide (0 ≤ t351) = true := decide_eq_true c19
          clear c19
          replace H := Option.bind_eq_some_iff.mp H
          obtain ⟨t352, A200, H⟩ := H
          (try dsimp only at H)
          have A20 := A0_ A200
          clear A200
          replace H := Option.bind_eq_some_iff.mp H
          obtain ⟨⟨t355, t358⟩, A210, H⟩ := H
          (try dsimp only at H)
          have A21 := A0_ A210
          clear A210
          simp only [Option.some.injEq, Prod.mk.injEq] at H
          obtain ⟨rfl, rfl⟩ := H
          obtain ⟨Ao22, co22, eo22⟩ := Kd.V_slice HO_2.out
          subst eo22
          go_wp2_with (first | ((with_reducible refine gate_callee (f := 12) rfl ?_); refine goesM_ (some 25) Try.func12 #[.slice Ao10 t327.length co10, .slice Ao22 x2_1.length co22] rfl ?_; (with_reducible refine (quo_DivMod.calls k1 _ _ t327 _ _ x2_1 t338 t341 t344 _ ?side1 ?side2 ?side3 ?side4 A15.out).mono ?_); (case side1 => exact mvC (Kd.R_reads' HO_0.out).2.2); (case side2 => exact (Kd.R_reads' HO_0.out).2.1); (case side3 => exact mvC (Kd.V_reads' HO_2.out).2.2); (case side4 => exact (Kd.V_reads' HO_2.out).2.1); rintro e w23 ⟨v339, v342, rfl, ho0, ho1, hb⟩; refine ⟨_, rfl, ?_⟩; have n0_ := A0_ (Kd.R_elder' (mvR HO_0.out) (Kd.R_base ho0) hb); have n1_ := A0_ (Kd.V_elder' (mvV HO_2.out) (Kd.R_base ho0) hb); have n2_ := A0_ (Kd.R_lower (Kd.R_new' (Kd.R_newM (M := fun k_ => (w.heap.size ≤ k_)) (Kd.R_mono (ok' := fun k_ => True) ho0 (fun _ hk_ => trivial)) (below_size bl_) (fun k_ h_ => h_)) (Kd.R_lt (mvR HO_0.out))) (below_size bl_)); have n3_ := A0_ (Kd.V_lower (Kd.V_mono (ok' := fun k_ => (w.heap.size ≤ k_) ∧ some k_ ≠ (v339 : Value).ownBlock ∧ some k_ ≠ (.slice Ao10 t327.length co10 : Value).ownBlock) ho1 (fun k_ hk_ => ⟨(Nat.le_trans (below_size bl_) hk_.1), hk_.2, (Kd.fresh' (Kd.R_lt (mvR HO_0.out)) k_ hk_.1)⟩)) (below_size bl_)); have n4_ := A0_ (below_step bl_ hb); clear HO_0; clear HO_2; clear HB; have HO_0 := n0_; have HO_2 := n1_; have HO340 := n2_; have HO343 := n3_; have HB := n4_; clear n0_ n1_ n2_ n3_ n4_; (try clear hb); (try clear hb2); (try clear hk); (try clear hi); (try clear ho0); (try clear ho1); obtain ⟨Ao24, co24, eo24⟩ := Kd.R_slice HO340.out; subst eo24) | ((with_reducible refine gate_callee (f := 20) rfl ?_); refine goesM_ (some 31) Try.func20 #[.slice Ao22 x2_1.length co22, .slice Ao24 t338.length co24] rfl ?_; (with_reducible refine (nat_Add.calls k1 (fun k_ => (((w.heap.size ≤ k_) ∧ some k_ ≠ (.slice Ao10 t327.length co10 : Value).ownBlock) ∧ some k_ ≠ (.slice Ao24 t338.length co24 : Value).ownBlock)) _ _ x2_1 (fun k_ => some k_ = (.slice Ao24 t338.length co24 : Value).ownBlock) _ _ t338 t345 _ ?side1 ?side2 A16.out).mono ?_); (case side1 => exact HO_2.out); (case side2 => exact Kd.R_V (Kd.R_tight rfl (HO340.out))); rintro e w25 ⟨v346, rfl, ho0, hb⟩; refine ⟨_, rfl, ?_⟩; have n0_ := A0_ (Kd.R_below (mvR HO_0.out) hb); have n1_ := A0_ (Kd.V_below (mvV HO_2.out) hb); have n2_ := A0_ (Kd.R_below (mvR HO340.out) hb); have n3_ := A0_ (Kd.V_below (mvV HO343.out) hb); have n4_ := A0_ (Kd.V_lower (Kd.V_mono (ok' := fun k_ => (w.heap.size ≤ k_) ∧ some k_ ≠ (.slice Ao10 t327.length co10 : Value).ownBlock) ho0 (fun k_ hk_ => ⟨Or.elim hk_ (fun hs_ => Or.elim hs_ (fun hs_ => hs_.1.1) (fun hs_ => ((HO340.out).1 k_ hs_.symm).1.1)) (fun hn_ => (Nat.le_trans (below_size bl_) hn_)), Or.elim hk_ (fun hs_ => Or.elim hs_ (fun hs_ => hs_.1.2) (fun hs_ => ((HO340.out).1 k_ hs_.symm).2)) (fun hn_ => (Kd.fresh' (Kd.R_lt (mvR HO_0.out)) k_ hn_))⟩)) (below_size bl_)); have n5_ := A0_ (below_step bl_ hb); clear HO_0; clear HO_2; clear HO340; clear HO343; clear HB; have HO_0 := n0_; have HO_2 := n1_; have HO340 := n2_; have HO343 := n3_; have HO347 := n4_; have HB := n5_; clear n0_ n1_ n2_ n3_ n4_ n5_; (try clear hb); (try clear hb2); (try clear hk); (try clear hi); (try clear ho0); obtain ⟨Ao26, co26, eo26⟩ := Kd.V_slice HO347.out; subst eo26) | ((with_reducible refine gate_callee (f := 25) rfl ?_); refine goesM_ (some 32) Try.func25 #[.slice Ao26 t345.length co26, .int .i64 1] rfl ?_; (with_reducible refine (nat_Shr.calls k1 (fun k_ => ((w.heap.size ≤ k_) ∧ some k_ ≠ (.slice Ao10 t327.length co10 : Value).ownBlock)) _ _ t345 1 t348 _ ?side1 A17.out).mono ?_); (case side1 => exact HO347.out); rintro e w27 ⟨v349, rfl, ho0, hb⟩; refine ⟨_, rfl, ?_⟩; have n0_ := A0_ (Kd.R_below (mvR HO_0.out) hb); have n1_ := A0_ (Kd.V_below (mvV HO_2.out) hb); have n2_ := A0_ (Kd.R_below (mvR HO340.out) hb); have n3_ := A0_ (Kd.V_below (mvV HO343.out) hb); have n4_ := A0_ (Kd.V_below (mvV HO347.out) hb); have n5_ := A0_ (Kd.V_lower (Kd.V_mono (ok' := fun k_ => (w.heap.size ≤ k_) ∧ some k_ ≠ (.slice Ao10 t327.length co10 : Value).ownBlock) ho0 (fun k_ hk_ => ⟨Or.elim hk_ (fun hs_ => hs_.1) (fun hn_ => (Nat.le_trans (below_size bl_) hn_)), Or.elim hk_ (fun hs_ => hs_.2) (fun hn_ => (Kd.fresh' (Kd.R_lt (mvR HO_0.out)) k_ hn_))⟩)) (below_size bl_)); have n6_ := A0_ (below_step bl_ hb); clear HO_0; clear HO_2; clear HO340; clear HO343; clear HO347; clear HB; have HO_0 := n0_; have HO_2 := n1_; have HO340 := n2_; have HO343 := n3_; have HO347 := n4_; have HO350 := n5_; have HB := n6_; clear n0_ n1_ n2_ n3_ n4_ n5_ n6_; (try clear hb); (try clear hb2); (try clear hk); (try clear hi); (try clear ho0); obtain ⟨Ao28, co28, eo28⟩ := Kd.V_slice HO350.out; subst eo28) | ((with_reducible refine gate_callee (f := 23) rfl ?_); refine goesM_ (some 35) Try.func23 #[.slice Ao28 t348.length co28, .slice Ao22 x2_1.length co22] rfl ?_; (with_reducible refine (nat_Cmp.calls k1 _ _ t348 _ _ x2_1 t351 _ ?side1 ?side2 ?side3 ?side4 A18.out).mono ?_); (case side1 => exact mvC (Kd.V_reads' HO350.out).2.2); (case side2 => exact (Kd.V_reads' HO350.out).2.1); (case side3 => exact mvC (Kd.V_reads' HO_2.out).2.2); (case side4 => exact (Kd.V_reads' HO_2.out).2.1); rintro e w29 ⟨rfl, hb⟩; refine ⟨_, rfl, ?_⟩; have n0_ := A0_ (Kd.R_below (mvR HO_0.out) hb); have n1_ := A0_ (Kd.V_below (mvV HO_2.out) hb); have n2_ := A0_ (Kd.R_below (mvR HO340.out) hb); have n3_ := A0_ (Kd.V_below (mvV HO343.out) hb); have n4_ := A0_ (Kd.V_below (mvV HO347.out) hb); have n5_ := A0_ (Kd.V_below (mvV HO350.out) hb); have n6_ := A0_ (below_step bl_ hb); clear HO_0; clear HO_2; clear HO340; clear HO343; clear HO347; clear HO350; clear HB; have HO_0 := n0_; have HO_2 := n1_; have HO340 := n2_; have HO343 := n3_; have HO347 := n4_; have HO350 := n5_; have HB := n6_; clear n0_ n1_ n2_ n3_ n4_ n5_ n6_; (try clear hb); (try clear hb2); (try clear hk); (try clear hi)) | ((with_reducible refine gate_callee (f := 21) rfl ?_); refine goesM_ (some 42) Try.func21 #[.slice Ao22 x2_1.length co22, .slice Ao22 x2_1.length co22] rfl ?_; (with_reducible refine (nat_Mul.calls k1 (fun k_ => (((w.heap.size ≤ k_) ∧ some k_ ≠ (.slice Ao10 t327.length co10 : Value).ownBlock) ∧ some k_ ≠ (.slice Ao24 t338.length co24 : Value).ownBlock)) _ _ x2_1 (fun k_ => (((w.heap.size ≤ k_) ∧ some k_ ≠ (.slice Ao10 t327.length co10 : Value).ownBlock) ∧ some k_ ≠ (.slice Ao24 t338.length co24 : Value).ownBlock)) _ _ x2_1 t352 _ ?side1 ?side2 A20.out).mono ?_); (case side1 => exact HO_2.out); (case side2 => exact HO_2.out); rintro e w30 ⟨v353, rfl, ho0, hb⟩; refine ⟨_, rfl, ?_⟩; have n0_ := A0_ (Kd.R_below (mvR HO_0.out) hb); have n1_ := A0_ (Kd.V_below (mvV HO_2.out) hb); have n2_ := A0_ (Kd.R_below (mvR HO340.out) hb); have n3_ := A0_ (Kd.V_below (mvV HO343.out) hb); have n4_ := A0_ (Kd.V_below (mvV HO347.out) hb); have n5_ := A0_ (Kd.V_below (mvV HO350.out) hb); have n6_ := A0_ (Kd.V_lower (Kd.V_mono (ok' := fun k_ => (w.heap.size ≤ k_) ∧ some k_ ≠ (.slice Ao10 t327.length co10 : Value).ownBlock ∧ some k_ ≠ (.slice Ao24 t338.length co24 : Value).ownBlock) ho0 (fun k_ hk_ => ⟨Or.elim hk_ (fun hs_ => Or.elim hs_ (fun hs_ => hs_.1.1) (fun hs_ => hs_.1.1)) (fun hn_ => (Nat.le_trans (below_size bl_) hn_)), Or.elim hk_ (fun hs_ => Or.elim hs_ (fun hs_ => hs_.1.2) (fun hs_ => hs_.1.2)) (fun hn_ => (Kd.fresh' (Kd.R_lt (mvR HO_0.out)) k_ hn_)), Or.elim hk_ (fun hs_ => Or.elim hs_ (fun hs_ => hs_.2) (fun hs_ => hs_.2)) (fun hn_ => (Kd.fresh' (Kd.R_lt (mvR HO340.out)) k_ hn_))⟩)) (below_size bl_)); have n7_ := A0_ (below_step bl_ hb); clear HO_0; clear HO_2; clear HO340; clear HO343; clear HO347; clear HO350; clear HB; have HO_0 := n0_; have HO_2 := n1_; have HO340 := n2_; have HO343 := n3_; have HO347 := n4_; have HO350 := n5_; have HO354 := n6_; have HB := n7_; clear n0_ n1_ n2_ n3_ n4_ n5_ n6_ n7_; (try clear hb); (try clear hb2); (try clear hk); (try clear hi); (try clear ho0); obtain ⟨Ao31, co31, eo31⟩ := Kd.V_slice HO354.out; subst eo31) | ((with_reducible refine gate_callee (f := 26) rfl ?_); refine goesM_ (some 43) Try.func26 #[.slice Ao10 t327.length co10, .slice Ao31 t352.length co31] rfl ?_; (with_reducible refine (nat_Sub.calls k1 (fun k_ => some k_ = (.slice Ao10 t327.length co10 : Value).ownBlock) _ _ t327 (fun k_ => ((w.heap.size ≤ k_) ∧ (some k_ ≠ (.slice Ao10 t327.length co10 : Value).ownBlock ∧ some k_ ≠ (.slice Ao24 t338.length co24 : Value).ownBlock))) _ _ t352 t355 t358 _ ?side1 ?side2 A21.out).mono ?_); (case side1 => exact Kd.R_V (Kd.R_tight rfl (HO_0.out))); (case side2 => exact HO354.out); rintro e w32 ⟨v356, rfl, ho0, hb⟩; refine ⟨_, rfl, ?_⟩; have n0_ := A0_ (Kd.R_below (mvR HO_0.out) hb); have n1_ := A0_ (Kd.V_below (mvV HO_2.out) hb); have n2_ := A0_ (Kd.R_below (mvR HO340.out) hb); have n3_ := A0_ (Kd.V_below (mvV HO343.out) hb); have n4_ := A0_ (Kd.V_below (mvV HO347.out) hb); have n5_ := A0_ (Kd.V_below (mvV HO350.out) hb); have n6_ := A0_ (Kd.V_below (mvV HO354.out) hb); have n7_ := A0_ (Kd.V_lower (Kd.V_mono (ok' := fun k_ => (w.heap.size ≤ k_) ∧ some k_ ≠ (.slice Ao24 t338.length co24 : Value).ownBlock) ho0 (fun k_ hk_ => ⟨Or.elim hk_ (fun hs_ => Or.elim hs_ (fun hs_ => ((HO_0.out).1 k_ hs_.symm).1) (fun hs_ => hs_.1)) (fun hn_ => (Nat.le_trans (below_size bl_) hn_)), Or.elim hk_ (fun hs_ => Or.elim hs_ (fun hs_ => ((HO_0.out).1 k_ hs_.symm).2) (fun hs_ => hs_.2.2)) (fun hn_ => (Kd.fresh' (Kd.R_lt (mvR HO340.out)) k_ hn_))⟩)) (below_size bl_)); have n8_ := A0_ (below_step bl_ hb); clear HO_0; clear HO_2; clear HO340; clear HO343; clear HO347; clear HO350; clear HO354; clear HB; have HO_0 := n0_; have HO_2 := n1_; have HO340 := n2_; have HO343 := n3_; have HO347 := n4_; have HO350 := n5_; have HO354 := n6_; have HO357 := n7_; have HB := n8_; clear n0_ n1_ n2_ n3_ n4_ n5_ n6_ n7_ n8_; (try clear hb); (try clear hb2); (try clear hk); (try clear hi); (try clear ho0)))
          go_ret2
          exact ⟨_, _, by first | rfl | (simp [errW_none, errW_some] <;> rfl) | (simp [*, errW_none, errW_some] <;> rfl), mvV (Kd.V_mono HO_2.out (fun _ hk => hk.1.1)), mvV (Kd.V_mono HO357.out (fun _ hk => hk.1)), bl_⟩
        · rw [if_neg c19] at H
          have c19b0 : decide (0 ≤ t351) = false := decide_eq_false c19
          clear c19
          have H' := A0_ H
          clear H
          obtain ⟨Ao33, co33, eo33⟩ := Kd.V_slice HO_2.out
          subst eo33
          go_wp2_with (first | ((with_reducible refine gate_callee (f := 12) rfl ?_); refine goesM_ (some 25) Try.func12 #[.slice Ao10 t327.length co10, .slice Ao33 x2_1.length co33] rfl ?_; (with_reducible refine (quo_DivMod.calls k1 _ _ t327 _ _ x2_1 t338 t341 t344 _ ?side1 ?side2 ?side3 ?side4 A15.out).mono ?_); (case side1 => exact mvC (Kd.R_reads' HO_0.out).2.2); (case side2 => exact (Kd.R_reads' HO_0.out).2.1); (case side3 => exact mvC (Kd.V_reads' HO_2.out).2.2); (case side4 => exact (Kd.V_reads' HO_2.out).2.1); rintro e w34 ⟨v339, v342, rfl, ho0, ho1, hb⟩; refine ⟨_, rfl, ?_⟩; have n0_ := A0_ (Kd.R_elder' (mvR HO_0.out) (Kd.R_base ho0) hb); have n1_ := A0_ (Kd.V_elder' (mvV HO_2.out) (Kd.R_base ho0) hb); have n2_ := A0_ (Kd.R_lower (Kd.R_new' (Kd.R_newM (M := fun k_ => (w.heap.size ≤ k_)) (Kd.R_mono (ok' := fun k_ => True) ho0 (fun _ hk_ => trivial)) (below_size bl_) (fun k_ h_ => h_)) (Kd.R_lt (mvR HO_0.out))) (below_size bl_)); have n3_ := A0_ (Kd.V_lower (Kd.V_mono (ok' := fun k_ => (w.heap.size ≤ k_) ∧ some k_ ≠ (v339 : Value).ownBlock ∧ some k_ ≠ (.slice Ao10 t327.length co10 : Value).ownBlock) ho1 (fun k_ hk_ => ⟨(Nat.le_trans (below_size bl_) hk_.1), hk_.2, (Kd.fresh' (Kd.R_lt (mvR HO_0.out)) k_ hk_.1)⟩)) (below_size bl_)); have n4_ := A0_ (below_step bl_ hb); clear HO_0; clear HO_2; clear HB; have HO_0 := n0_; have HO_2 := n1_; have HO340 := n2_; have HO343 := n3_; have HB := n4_; clear n0_ n1_ n2_ n3_ n4_; (try clear hb); (try clear hb2); (try clear hk); (try clear hi); (try clear ho0); (try clear ho1); obtain ⟨Ao35, co35, eo35⟩ := Kd.R_slice HO340.out; subst eo35) | ((with_reducible refine gate_callee (f := 20) rfl ?_); refine goesM_ (some 31) Try.func20 #[.slice Ao33 x2_1.length co33, .slice Ao35 t338.length co35] rfl ?_; (with_reducible refine (nat_Add.calls k1 (fun k_ => (((w.heap.size ≤ k_) ∧ some k_ ≠ (.slice Ao10 t327.length co10 : Value).ownBlock) ∧ some k_ ≠ (.slice Ao35 t338.length co35 : Value).ownBlock)) _ _ x2_1 (fun k_ => some k_ = (.slice Ao35 t338.length co35 : Value).ownBlock) _ _ t338 t345 _ ?side1 ?side2 A16.out).mono ?_); (case side1 => exact HO_2.out); (case side2 => exact Kd.R_V (Kd.R_tight rfl (HO340.out))); rintro e w36 ⟨v346, rfl, ho0, hb⟩; refine ⟨_, rfl, ?_⟩; have n0_ := A0_ (Kd.R_below (mvR HO_0.out) hb); have n1_ := A0_ (Kd.V_below (mvV HO_2.out) hb); have n2_ := A0_ (Kd.R_below (mvR HO340.out) hb); have n3_ := A0_ (Kd.V_below (mvV HO343.out) hb); have n4_ := A0_ (Kd.V_lower (Kd.V_mono (ok' := fun k_ => (w.heap.size ≤ k_) ∧ some k_ ≠ (.slice Ao10 t327.length co10 : Value).ownBlock) ho0 (fun k_ hk_ => ⟨Or.elim hk_ (fun hs_ => Or.elim hs_ (fun hs_ => hs_.1.1) (fun hs_ => ((HO340.out).1 k_ hs_.symm).1.1)) (fun hn_ => (Nat.le_trans (below_size bl_) hn_)), Or.elim hk_ (fun hs_ => Or.elim hs_ (fun hs_ => hs_.1.2) (fun hs_ => ((HO340.out).1 k_ hs_.symm).2)) (fun hn_ => (Kd.fresh' (Kd.R_lt (mvR HO_0.out)) k_ hn_))⟩)) (below_size bl_)); have n5_ := A0_ (below_step bl_ hb); clear HO_0; clear HO_2; clear HO340; clear HO343; clear HB; have HO_0 := n0_; have HO_2 := n1_; have HO340 := n2_; have HO343 := n3_; have HO347 := n4_; have HB := n5_; clear n0_ n1_ n2_ n3_ n4_ n5_; (try clear hb); (try clear hb2); (try clear hk); (try clear hi); (try clear ho0); obtain ⟨Ao37, co37, eo37⟩ := Kd.V_slice HO347.out; subst eo37) | ((with_reducible refine gate_callee (f := 25) rfl ?_); refine goesM_ (some 32) Try.func25 #[.slice Ao37 t345.length co37, .int .i64 1] rfl ?_; (with_reducible refine (nat_Shr.calls k1 (fun k_ => ((w.heap.size ≤ k_) ∧ some k_ ≠ (.slice Ao10 t327.length co10 : Value).ownBlock)) _ _ t345 1 t348 _ ?side1 A17.out).mono ?_); (case side1 => exact HO347.out); rintro e w38 ⟨v349, rfl, ho0, hb⟩; refine ⟨_, rfl, ?_⟩; have n0_ := A0_ (Kd.R_below (mvR HO_0.out) hb); have n1_ := A0_ (Kd.V_below (mvV HO_2.out) hb); have n2_ := A0_ (Kd.R_below (mvR HO340.out) hb); have n3_ := A0_ (Kd.V_below (mvV HO343.out) hb); have n4_ := A0_ (Kd.V_below (mvV HO347.out) hb); have n5_ := A0_ (Kd.V_lower (Kd.V_mono (ok' := fun k_ => (w.heap.size ≤ k_) ∧ some k_ ≠ (.slice Ao10 t327.length co10 : Value).ownBlock) ho0 (fun k_ hk_ => ⟨Or.elim hk_ (fun hs_ => hs_.1) (fun hn_ => (Nat.le_trans (below_size bl_) hn_)), Or.elim hk_ (fun hs_ => hs_.2) (fun hn_ => (Kd.fresh' (Kd.R_lt (mvR HO_0.out)) k_ hn_))⟩)) (below_size bl_)); have n6_ := A0_ (below_step bl_ hb); clear HO_0; clear HO_2; clear HO340; clear HO343; clear HO347; clear HB; have HO_0 := n0_; have HO_2 := n1_; have HO340 := n2_; have HO343 := n3_; have HO347 := n4_; have HO350 := n5_; have HB := n6_; clear n0_ n1_ n2_ n3_ n4_ n5_ n6_; (try clear hb); (try clear hb2); (try clear hk); (try clear hi); (try clear ho0); obtain ⟨Ao39, co39, eo39⟩ := Kd.V_slice HO350.out; subst eo39) | ((with_reducible refine gate_callee (f := 23) rfl ?_); refine goesM_ (some 35) Try.func23 #[.slice Ao39 t348.length co39, .slice Ao33 x2_1.length co33] rfl ?_; (with_reducible refine (nat_Cmp.calls k1 _ _ t348 _ _ x2_1 t351 _ ?side1 ?side2 ?side3 ?side4 A18.out).mono ?_); (case side1 => exact mvC (Kd.V_reads' HO350.out).2.2); (case side2 => exact (Kd.V_reads' HO350.out).2.1); (case side3 => exact mvC (Kd.V_reads' HO_2.out).2.2); (case side4 => exact (Kd.V_reads' HO_2.out).2.1); rintro e w40 ⟨rfl, hb⟩; refine ⟨_, rfl, ?_⟩; have n0_ := A0_ (Kd.R_below (mvR HO_0.out) hb); have n1_ := A0_ (Kd.V_below (mvV HO_2.out) hb); have n2_ := A0_ (Kd.R_below (mvR HO340.out) hb); have n3_ := A0_ (Kd.V_below (mvV HO343.out) hb); have n4_ := A0_ (Kd.V_below (mvV HO347.out) hb); have n5_ := A0_ (Kd.V_below (mvV HO350.out) hb); have n6_ := A0_ (below_step bl_ hb); clear HO_0; clear HO_2; clear HO340; clear HO343; clear HO347; clear HO350; clear HB; have HO_0 := n0_; have HO_2 := n1_; have HO340 := n2_; have HO343 := n3_; have HO347 := n4_; have HO350 := n5_; have HB := n6_; clear n0_ n1_ n2_ n3_ n4_ n5_ n6_; (try clear hb); (try clear hb2); (try clear hk); (try clear hi)))
          go_roundg k1
          case measure => have := HK1.out; omega
          case rel => exact ⟨(t348), H', ⟨by have := HK1.out; omega⟩, ⟨mvR (Kd.R_mono HO_0.out (fun _ hk => hk.1))⟩, ⟨mvV HO350.out⟩, ⟨bl_⟩⟩

end Go.Proofs.Ytohkjfdcmiiehaa.P
