/- What the Go functions of these names come to, as plain Lean functions, and the walks that show it. Written for this claim by a turned copy of the print program; Lean checks it. -/
import Derived.Test.YtohkjfdcmiiehaaP0
import Derived.Test.YtohkjfdcmiiehaaP5
import Derived.Test.YtohkjfdcmiiehaaP6
import Derived.Test.YtohkjfdcmiiehaaP7
import Derived.Test.YtohkjfdcmiiehaaP12
namespace Go.Proofs.Ytohkjfdcmiiehaa.P
open Go.RowKit Go.Proofs.YtohkjfdcmiiehaaW.PrintWords Go.Proofs.YtohkjfdcmiiehaaW.PrintLast Go.Proofs.YtohkjfdcmiiehaaW.PrintMore
attribute [local go_sem] max2_int min2_int max_two min_two max_three min_three max_four min_four   -- for this text's walks alone
set_option linter.unusedVariables false
set_option linter.unusedSimpArgs false

/-! ### astrolaberef03_DivMod: function 13 -/
mutual
def astrolaberef03_DivMod.l0 : Nat → List Int → Int → List Int → List Int → List Int → Int → Option (List Int × List Int × Bool)
  | 0, _, _, _, _, _, _ => none
  | k + 1, x7, x10, x11, x13, x14, x15 => if x15 ≥ 0 then (if 0 ≤ x15 then (if x15 < (x11.length : Int) then ((some (([rd x11 x15] : List Int) : List Int)).bind fun y522 => (if y522.length + x14.length < 35184372088832 then ((astrolaberef01_Trim.f k (y522 ++ x14)).bind fun t528 => ((astrolaberef03_guess.f t528 x7).bind fun t531 => ((astrolaberef01_From.f k t531).bind fun t532 => ((astrolaberef01_Mul.f k x7 t532).bind fun t535 => ((astrolaberef01_Sub.f k t528 t535).bind fun bt538 => (astrolaberef03_DivMod.l1 k x7 x10 x11 x13 t528 x15 t531 bt538.1 bt538.2)))))) else (none))) else (none)) else (none)) else ((astrolaberef01_Trim.f k x13).bind fun t515 => ((astrolaberef01_Shr.f k x14 x10).bind fun t518 => (some (t515, t518, true))))
def astrolaberef03_DivMod.l1 : Nat → List Int → Int → List Int → List Int → List Int → Int → Int → List Int → Bool → Option (List Int × List Int × Bool)
  | 0, _, _, _, _, _, _, _, _, _ => none
  | k + 1, x7, x10, x11, x13, x14, x15, x16, x17, x18 => if x18 = true then (if 0 ≤ x15 then (if x15 < (x13.length : Int) then (astrolaberef03_DivMod.l0 k x7 x10 x11 (x13.set (x15 : Int).toNat ((x16) % 4294967296)) x17 (wrap64 (x15 - 1))) else (none)) else (none)) else ((astrolaberef01_From.f k (IntKind.u64.wrap (x16 - 1))).bind fun t543 => ((astrolaberef01_Mul.f k x7 t543).bind fun t546 => ((astrolaberef01_Sub.f k x14 t546).bind fun bt549 => (astrolaberef03_DivMod.l1 k x7 x10 x11 x13 x14 x15 (IntKind.u64.wrap (x16 - 1)) bt549.1 bt549.2))))
end
def astrolaberef03_DivMod.f (k : Nat) (l0 : List Int) (l1 : List Int) : Option (List Int × List Int × Bool) := (astrolaberef01_Trim.f k l1).bind fun t493 => (if (t493.length : Int) = 0 then (some (([] : List Int), ([] : List Int), false)) else (if (t493.length : Int) = 1 then (if 0 < (t493.length : Int) then ((astrolaberef03_short.f k l0 (IntKind.u64.wrap (rd t493 0))).bind fun bt497 => (some (bt497.1, bt497.2, true))) else (none)) else ((astrolaberef01_Bits.f k t493).bind fun t503 => ((astrolaberef01_Shl.f k t493 (wrap64 ((wrap64 (32 * (t493.length : Int))) - t503))).bind fun bt504 => ((astrolaberef01_Shl.f k l0 (wrap64 ((wrap64 (32 * (t493.length : Int))) - t503))).bind fun bt508 => (if 0 ≤ (bt508.1.length : Int) then (if ((bt508.1.length : Int) : Int).toNat ≤ 70368744177664 then (astrolaberef03_DivMod.l0 k bt504.1 (wrap64 ((wrap64 (32 * (t493.length : Int))) - t503)) bt508.1 (List.replicate ((bt508.1.length : Int) : Int).toNat 0) ([] : List Int) (wrap64 ((bt508.1.length : Int) - 1))) else (none)) else (none)))))))
theorem astrolaberef03_DivMod.mono_l : ∀ k, (∀ y0 y1 y2 y3 y4 y5, LeO (astrolaberef03_DivMod.l0 k y0 y1 y2 y3 y4 y5) (astrolaberef03_DivMod.l0 (k + 1) y0 y1 y2 y3 y4 y5)) ∧ (∀ y0 y1 y2 y3 y4 y5 y6 y7 y8, LeO (astrolaberef03_DivMod.l1 k y0 y1 y2 y3 y4 y5 y6 y7 y8) (astrolaberef03_DivMod.l1 (k + 1) y0 y1 y2 y3 y4 y5 y6 y7 y8))
  | 0 => ⟨fun _ _ _ _ _ _ r h => by simp [astrolaberef03_DivMod.l0] at h, fun _ _ _ _ _ _ _ _ _ r h => by simp [astrolaberef03_DivMod.l1] at h⟩
  | k + 1 => by
    obtain ⟨ih0, ih1⟩ := astrolaberef03_DivMod.mono_l k
    refine ⟨?_, ?_⟩
    · intro y0 y1 y2 y3 y4 y5
      unfold astrolaberef03_DivMod.l0
      repeat' first
      | (with_reducible exact ih0 _ _ _ _ _ _)
      | (with_reducible exact ih1 _ _ _ _ _ _ _ _ _)
      | (with_reducible exact astrolaberef01_Bits.mono _ _)
      | (with_reducible exact astrolaberef01_From.mono _ _)
      | (with_reducible exact astrolaberef01_Mul.mono _ _ _)
      | (with_reducible exact astrolaberef01_Shl.mono _ _ _)
      | (with_reducible exact astrolaberef01_Shr.mono _ _ _)
      | (with_reducible exact astrolaberef01_Sub.mono _ _ _)
      | (with_reducible exact astrolaberef01_Trim.mono _ _)
      | (with_reducible exact astrolaberef03_short.mono _ _ _)
      | (with_reducible exact LeO.refl _)
      | (with_reducible exact LeO.none _)
      | (with_reducible refine LeO.ite ?_ ?_)
      | (with_reducible refine LeO.bind ?_ (fun _ => ?_))
      | exact ih0 _ _ _ _ _ _
      | exact ih1 _ _ _ _ _ _ _ _ _
      | exact astrolaberef01_Bits.mono _ _
      | exact astrolaberef01_From.mono _ _
      | exact astrolaberef01_Mul.mono _ _ _
      | exact astrolaberef01_Shl.mono _ _ _
      | exact astrolaberef01_Shr.mono _ _ _
      | exact astrolaberef01_Sub.mono _ _ _
      | exact astrolaberef01_Trim.mono _ _
      | exact astrolaberef03_short.mono _ _ _
      | exact LeO.none _
      | refine LeO.ite ?_ ?_
      | refine LeO.bind ?_ (fun _ => ?_)
    · intro y0 y1 y2 y3 y4 y5 y6 y7 y8
      unfold astrolaberef03_DivMod.l1
      repeat' first
      | (with_reducible exact ih0 _ _ _ _ _ _)
      | (with_reducible exact ih1 _ _ _ _ _ _ _ _ _)
      | (with_reducible exact astrolaberef01_Bits.mono _ _)
      | (with_reducible exact astrolaberef01_From.mono _ _)
      | (with_reducible exact astrolaberef01_Mul.mono _ _ _)
      | (with_reducible exact astrolaberef01_Shl.mono _ _ _)
      | (with_reducible exact astrolaberef01_Shr.mono _ _ _)
      | (with_reducible exact astrolaberef01_Sub.mono _ _ _)
      | (with_reducible exact astrolaberef01_Trim.mono _ _)
      | (with_reducible exact astrolaberef03_short.mono _ _ _)
      | (with_reducible exact LeO.refl _)
      | (with_reducible exact LeO.none _)
      | (with_reducible refine LeO.ite ?_ ?_)
      | (with_reducible refine LeO.bind ?_ (fun _ => ?_))
      | exact ih0 _ _ _ _ _ _
      | exact ih1 _ _ _ _ _ _ _ _ _
      | exact astrolaberef01_Bits.mono _ _
      | exact astrolaberef01_From.mono _ _
      | exact astrolaberef01_Mul.mono _ _ _
      | exact astrolaberef01_Shl.mono _ _ _
      | exact astrolaberef01_Shr.mono _ _ _
      | exact astrolaberef01_Sub.mono _ _ _
      | exact astrolaberef01_Trim.mono _ _
      | exact astrolaberef03_short.mono _ _ _
      | exact LeO.none _
      | refine LeO.ite ?_ ?_
      | refine LeO.bind ?_ (fun _ => ?_)
theorem astrolaberef03_DivMod.mono : ∀ a0 a1 k, LeO (astrolaberef03_DivMod.f k a0 a1) (astrolaberef03_DivMod.f (k + 1) a0 a1) := by
  intro a0 a1 k
  obtain ⟨ih0, ih1⟩ := astrolaberef03_DivMod.mono_l k
  unfold astrolaberef03_DivMod.f
  repeat' first
      | (with_reducible exact ih0 _ _ _ _ _ _)
      | (with_reducible exact ih1 _ _ _ _ _ _ _ _ _)
      | (with_reducible exact astrolaberef01_Bits.mono _ _)
      | (with_reducible exact astrolaberef01_From.mono _ _)
      | (with_reducible exact astrolaberef01_Mul.mono _ _ _)
      | (with_reducible exact astrolaberef01_Shl.mono _ _ _)
      | (with_reducible exact astrolaberef01_Shr.mono _ _ _)
      | (with_reducible exact astrolaberef01_Sub.mono _ _ _)
      | (with_reducible exact astrolaberef01_Trim.mono _ _)
      | (with_reducible exact astrolaberef03_short.mono _ _ _)
      | (with_reducible exact LeO.refl _)
      | (with_reducible exact LeO.none _)
      | (with_reducible refine LeO.ite ?_ ?_)
      | (with_reducible refine LeO.bind ?_ (fun _ => ?_))
      | exact ih0 _ _ _ _ _ _
      | exact ih1 _ _ _ _ _ _ _ _ _
      | exact astrolaberef01_Bits.mono _ _
      | exact astrolaberef01_From.mono _ _
      | exact astrolaberef01_Mul.mono _ _ _
      | exact astrolaberef01_Shl.mono _ _ _
      | exact astrolaberef01_Shr.mono _ _ _
      | exact astrolaberef01_Sub.mono _ _ _
      | exact astrolaberef01_Trim.mono _ _
      | exact astrolaberef03_short.mono _ _ _
      | exact LeO.none _
      | refine LeO.ite ?_ ?_
      | refine LeO.bind ?_ (fun _ => ?_)
set_option maxHeartbeats 8000000 in
set_option maxRecDepth 100000 in
theorem astrolaberef03_DivMod.calls (k : Nat) (A0 : Option Addr) (c0 : Nat) (l0 : List Int) (A1 : Option Addr) (c1 : Nat) (l1 : List Int) (r1 : List Int) (r2 : List Int) (r3 : Bool) (w : World) (hr0 : Kd.C (Kd.int .u32) w A0 l0.length l0) (hc0 : l0.length ≤ c0) (hr1 : Kd.C (Kd.int .u32) w A1 l1.length l1) (hc1 : l1.length ≤ c1) (h : astrolaberef03_DivMod.f k l0 l1 = some (r1, r2, r3)) :
    Calls Try.prog 13 #[.slice A0 l0.length c0, .slice A1 l1.length c1] w fun e w' => ∃ v0_ v1_ : Value, e = .returned (.tuple #[v0_, v1_, .bool r3]) ∧ Kd.R (Kd.int .u32) 37 w' w.heap.size (fun k_ => some k_ ≠ (v1_ : Value).ownBlock) v0_ r1 ∧ Kd.R (Kd.int .u32) 37 w' w.heap.size (fun k_ => some k_ ≠ (v0_ : Value).ownBlock) v1_ r2 ∧ Below w.heap.size w w' := by
  have HR0 := A0_ hr0
  have HC0 := A0_ hc0
  clear hr0 hc0
  have HR1 := A0_ hr1
  have HC1 := A0_ hc1
  clear hr1 hc1
  have HB := A0_ (Below.refl w.heap.size w)
  have H : ((astrolaberef01_Trim.f k l1).bind fun t493 => (if (t493.length : Int) = 0 then (some (([] : List Int), ([] : List Int), false)) else (if (t493.length : Int) = 1 then (if 0 < (t493.length : Int) then ((astrolaberef03_short.f k l0 (IntKind.u64.wrap (rd t493 0))).bind fun bt497 => (some (bt497.1, bt497.2, true))) else (none)) else ((astrolaberef01_Bits.f k t493).bind fun t503 => ((astrolaberef01_Shl.f k t493 (wrap64 ((wrap64 (32 * (t493.length : Int))) - t503))).bind fun bt504 => ((astrolaberef01_Shl.f k l0 (wrap64 ((wrap64 (32 * (t493.length : Int))) - t503))).bind fun bt508 => (if 0 ≤ (bt508.1.length : Int) then (if ((bt508.1.length : Int) : Int).toNat ≤ 70368744177664 then (astrolaberef03_DivMod.l0 k bt504.1 (wrap64 ((wrap64 (32 * (t493.length : Int))) - t503)) bt508.1 (List.replicate ((bt508.1.length : Int) : Int).toNat 0) ([] : List Int) (wrap64 ((bt508.1.length : Int) - 1))) else (none)) else (none)))))))) = some (r1, r2, r3) := h
  clear h
  replace H := Option.bind_eq_some_iff.mp H
  obtain ⟨t493, A30, H⟩ := H
  (try dsimp only at H)
  have A3 := A0_ A30
  clear A30
  by_cases c4 : (t493.length : Int) = 0
  · rw [if_pos c4] at H
    have c4b0 : ((t493.length : Int) == 0) = true := beq_iff_eq.mpr c4
    have c4b1 : ((t493.length : Int) != 0) = false := bne_eq_false_iff_eq.mpr c4
    clear c4
    simp only [Option.some.injEq, Prod.mk.injEq] at H
    obtain ⟨rfl, rfl, rfl⟩ := H
    go_enter Try.func13, Try.ntmps13
    go_wp2_with (first | ((with_reducible refine gate_callee (f := 29) rfl ?_); refine goesM_ (some 20) Try.func29 #[.slice A1 l1.length c1] rfl ?_; (with_reducible refine (astrolaberef01_Trim.calls k _ _ l1 t493 _ ?side1 ?side2 A3.out).mono ?_); (case side1 => exact mvC HR1.out); (case side2 => exact HC1.out); rintro e w5 ⟨v494, rfl, ho0, hb⟩; refine ⟨_, rfl, ?_⟩; have n0_ := A0_ (Kd.R_lower ho0 (below_size bl_)); have n1_ := A0_ (below_step bl_ hb); clear HB; have HO495 := n0_; have HB := n1_; clear n0_ n1_; (try clear hb); (try clear hb2); (try clear hk); (try clear hi); (try clear ho0); obtain ⟨Ao6, co6, eo6⟩ := Kd.R_slice HO495.out; subst eo6))
    go_ret3
    exact ⟨(.slice none 0 0), (.slice none 0 0), by first | rfl | (simp [errW_none, errW_some] <;> rfl) | (simp [*, errW_none, errW_some] <;> rfl), by first | exact Kd.R_nil _ _ _ _ _ | exact Kd.N_nil _ _ _ _ _ | exact Kd.V_nil _ _ _ _ _ | exact Kd.Q_nil _ _ _ _ _ | exact Kd.S_nil _ _ _ _ _, by first | exact Kd.R_nil _ _ _ _ _ | exact Kd.N_nil _ _ _ _ _ | exact Kd.V_nil _ _ _ _ _ | exact Kd.Q_nil _ _ _ _ _ | exact Kd.S_nil _ _ _ _ _, bl_⟩
  · rw [if_neg c4] at H
    have c4b0 : ((t493.length : Int) == 0) = false := beq_eq_false_iff_ne.mpr c4
    have c4b1 : ((t493.length : Int) != 0) = true := bne_iff_ne.mpr c4
    have c4b2 : ¬ (t493 = []) := fun h_ => c4 (by rw [h_]; rfl)
    by_cases c7 : (t493.length : Int) = 1
    · rw [if_pos c7] at H
      have c7b0 : ((t493.length : Int) == 1) = true := beq_iff_eq.mpr c7
      have c7b1 : ((t493.length : Int) != 1) = false := bne_eq_false_iff_eq.mpr c7
      clear c7
      by_cases c8 : 0 < (t493.length : Int)
      case neg => rw [if_neg c8] at H; exact absurd H (by simp)
      rw [if_pos c8] at H
      have c8b0 : decide (0 < (t493.length : Int)) = true := decide_eq_true c8
      have c8b1 : decide (0 < t493.length) = true := decide_eq_true (by omega)
      clear c8
      replace H := Option.bind_eq_some_iff.mp H
      obtain ⟨⟨t497, t498⟩, A90, H⟩ := H
      (try dsimp only at H)
      have A9 := A0_ A90
      clear A90
      simp only [Option.some.injEq, Prod.mk.injEq] at H
      obtain ⟨rfl, rfl, rfl⟩ := H
      go_enter Try.func13, Try.ntmps13
      go_wp2_with (first | ((with_reducible refine gate_callee (f := 29) rfl ?_); refine goesM_ (some 20) Try.func29 #[.slice A1 l1.length c1] rfl ?_; (with_reducible refine (astrolaberef01_Trim.calls k _ _ l1 t493 _ ?side1 ?side2 A3.out).mono ?_); (case side1 => exact mvC HR1.out); (case side2 => exact HC1.out); rintro e w10 ⟨v494, rfl, ho0, hb⟩; refine ⟨_, rfl, ?_⟩; have n0_ := A0_ (Kd.R_lower ho0 (below_size bl_)); have n1_ := A0_ (below_step bl_ hb); clear HB; have HO495 := n0_; have HB := n1_; clear n0_ n1_; (try clear hb); (try clear hb2); (try clear hk); (try clear hi); (try clear ho0); obtain ⟨Ao11, co11, eo11⟩ := Kd.R_slice HO495.out; subst eo11; have p496 : 0 ≤ (0 : Int) := (by omega); have q496 : 0 < (t493.length : Int) := od_; obtain ⟨ad496, e496, hx496_0⟩ := Kd.at_int (Kd.R_reads' HO495.out).2.2 0 p496 q496; cases e496; have qi496 : (0 < t493.length) = True := eq_true (by omega); (try rw [show ((0 : Int)).toNat = 0 from rfl] at hx496_0); (try rw [Addr.add_zero'] at hx496_0); replace p496 := eq_true p496; replace q496 := eq_true q496) | ((with_reducible refine gate_callee (f := 30) rfl ?_); refine goesM_ (some 33) Try.func30 #[.slice A0 l0.length c0, .int .u64 (IntKind.u64.wrap (rd t493 0))] rfl ?_; (with_reducible refine (astrolaberef03_short.calls k _ _ l0 (IntKind.u64.wrap (rd t493 0)) t497 t498 _ ?side1 ?side2 A9.out).mono ?_); (case side1 => exact mvC (Kd.C_below HR0.out HB.out)); (case side2 => exact HC0.out); rintro e w12 ⟨v499, v501, rfl, ho0, ho1, hb⟩; refine ⟨_, rfl, ?_⟩; have n0_ := A0_ (Kd.R_mono (Kd.R_told (Kd.R_told (Kd.R_old (mvR HO495.out) hb) (Kd.R_base ho0)) (Kd.R_base ho1)) (fun _ h_ => h_.1)); have n1_ := A0_ (Kd.R_lower (Kd.R_new' ho0 (Kd.R_lt (mvR HO495.out))) (below_size bl_)); have n2_ := A0_ (Kd.R_lower (Kd.R_new' ho1 (Kd.R_lt (mvR HO495.out))) (below_size bl_)); have n3_ := A0_ (below_step bl_ hb); clear HO495; clear HB; have HO495 := n0_; have HO500 := n1_; have HO502 := n2_; have HB := n3_; clear n0_ n1_ n2_ n3_; (try clear hb); (try clear hb2); (try clear hk); (try clear hi); (try clear ho0); (try clear ho1)))
      go_ret3
      exact ⟨_, _, by first | rfl | (simp [errW_none, errW_some] <;> rfl) | (simp [*, errW_none, errW_some] <;> rfl), mvR (Kd.R_mono HO500.out (fun _ hk => hk.1)), mvR (Kd.R_mono HO502.out (fun _ hk => hk.1)), bl_⟩
    · rw [if_neg c7] at H
      have c7b0 : ((t493.length : Int) == 1) = false := beq_eq_false_iff_ne.mpr c7
      have c7b1 : ((t493.length : Int) != 1) = true := bne_iff_ne.mpr c7
      replace H := Option.bind_eq_some_iff.mp H
      obtain ⟨t503, A130, H⟩ := H
      (try dsimp only at H)
      have A13 := A0_ A130
      clear A130
      replace H := Option.bind_eq_some_iff.mp H
      obtain ⟨⟨t504, t505⟩, A140, H⟩ := H
      (try dsimp only at H)
      have A14 := A0_ A140
      clear A140
      replace H := Option.bind_eq_some_iff.mp H
      obtain ⟨⟨t508, t509⟩, A150, H⟩ := H
      (try dsimp only at H)
      have A15 := A0_ A150
      clear A150
      by_cases c16 : 0 ≤ (t508.length : Int)
      case neg => rw [if_neg c16] at H; exact absurd H (by simp)
      rw [if_pos c16] at H
      have c16b0 := eq_true c16
      have c16b1 : decide (0 ≤ (t508.length : Int)) = true := decide_eq_true c16
      clear c16
      by_cases c17 : ((t508.length : Int) : Int).toNat ≤ 70368744177664
      case neg => rw [if_neg c17] at H; exact absurd H (by simp)
      rw [if_pos c17] at H
      have c17b0 := eq_true c17
      have c17b1 : decide (((t508.length : Int) : Int).toNat ≤ 70368744177664) = true := decide_eq_true c17
      clear c17
      obtain ⟨y512, hy512⟩ : ∃ y_ : List Int, y_ = (List.replicate ((t508.length : Int) : Int).toNat 0) := ⟨_, rfl⟩
      replace H : (astrolaberef03_DivMod.l0 k t504 (wrap64 ((wrap64 (32 * (t493.length : Int))) - t503)) t508 y512 ([] : List Int) (wrap64 ((t508.length : Int) - 1))) = some (r1, r2, r3) := by first | (rw [hy512]; with_reducible exact H) | (rw [hy512]; exact H) | exact H
      have Ny512 := A0_ hy512
      clear hy512
      have H' := A0_ H
      clear H
      go_enter Try.func13, Try.ntmps13
      go_wp2_with (first | ((with_reducible refine gate_callee (f := 29) rfl ?_); refine goesM_ (some 20) Try.func29 #[.slice A1 l1.length c1] rfl ?_; (with_reducible refine (astrolaberef01_Trim.calls k _ _ l1 t493 _ ?side1 ?side2 A3.out).mono ?_); (case side1 => exact mvC HR1.out); (case side2 => exact HC1.out); rintro e w18 ⟨v494, rfl, ho0, hb⟩; refine ⟨_, rfl, ?_⟩; have n0_ := A0_ (Kd.R_lower ho0 (below_size bl_)); have n1_ := A0_ (below_step bl_ hb); clear HB; have HO495 := n0_; have HB := n1_; clear n0_ n1_; (try clear hb); (try clear hb2); (try clear hk); (try clear hi); (try clear ho0); obtain ⟨Ao19, co19, eo19⟩ := Kd.R_slice HO495.out; subst eo19) | ((with_reducible refine gate_callee (f := 31) rfl ?_); refine goesM_ (some 42) Try.func31 #[.slice Ao19 t493.length co19] rfl ?_; (with_reducible refine (astrolaberef01_Bits.calls k _ _ t493 t503 _ ?side1 ?side2 A13.out).mono ?_); (case side1 => exact mvC (Kd.R_reads' HO495.out).2.2); (case side2 => exact (Kd.R_reads' HO495.out).2.1); rintro e w20 ⟨rfl, hb⟩; refine ⟨_, rfl, ?_⟩; have n0_ := A0_ (Kd.R_below (mvR HO495.out) hb); have n1_ := A0_ (below_step bl_ hb); clear HO495; clear HB; have HO495 := n0_; have HB := n1_; clear n0_ n1_; (try clear hb); (try clear hb2); (try clear hk); (try clear hi)) | ((with_reducible refine gate_callee (f := 32) rfl ?_); refine goesM_ (some 47) Try.func32 #[.slice Ao19 t493.length co19, .int .i64 (wrap64 ((wrap64 (32 * (t493.length : Int))) - t503))] rfl ?_; (with_reducible refine (astrolaberef01_Shl.calls k _ _ t493 (wrap64 ((wrap64 (32 * (t493.length : Int))) - t503)) t504 t505 _ ?side1 ?side2 A14.out).mono ?_); (case side1 => exact mvC (Kd.R_reads' HO495.out).2.2); (case side2 => exact (Kd.R_reads' HO495.out).2.1); rintro e w21 ⟨v506, rfl, ho0, hb⟩; refine ⟨_, rfl, ?_⟩; have n0_ := A0_ (Kd.R_elder' (mvR HO495.out) (Kd.R_base ho0) hb); have n1_ := A0_ (Kd.R_lower (Kd.R_new' ho0 (Kd.R_lt (mvR HO495.out))) (below_size bl_)); have n2_ := A0_ (below_step bl_ hb); clear HO495; clear HB; have HO495 := n0_; have HO507 := n1_; have HB := n2_; clear n0_ n1_ n2_; (try clear hb); (try clear hb2); (try clear hk); (try clear hi); (try clear ho0)) | ((with_reducible refine gate_callee (f := 32) rfl ?_); refine goesM_ (some 53) Try.func32 #[.slice A0 l0.length c0, .int .i64 (wrap64 ((wrap64 (32 * (t493.length : Int))) - t503))] rfl ?_; (with_reducible refine (astrolaberef01_Shl.calls k _ _ l0 (wrap64 ((wrap64 (32 * (t493.length : Int))) - t503)) t508 t509 _ ?side1 ?side2 A15.out).mono ?_); (case side1 => exact mvC (Kd.C_below HR0.out HB.out)); (case side2 => exact HC0.out); rintro e w22 ⟨v510, rfl, ho0, hb⟩; refine ⟨_, rfl, ?_⟩; have n0_ := A0_ (Kd.R_elder' (mvR HO495.out) (Kd.R_base ho0) hb); have n1_ := A0_ (Kd.R_elder' (mvR HO507.out) (Kd.R_base ho0) hb); have n2_ := A0_ (Kd.R_lower (Kd.R_new' (Kd.R_new' ho0 (Kd.R_lt (mvR HO495.out))) (Kd.R_lt (mvR HO507.out))) (below_size bl_)); have n3_ := A0_ (below_step bl_ hb); clear HO495; clear HO507; clear HB; have HO495 := n0_; have HO507 := n1_; have HO511 := n2_; have HB := n3_; clear n0_ n1_ n2_ n3_; (try clear hb); (try clear hb2); (try clear hk); (try clear hi); (try clear ho0); obtain ⟨Ao23, co23, eo23⟩ := Kd.R_slice HO511.out; subst eo23) | ((with_reducible refine gate_dst (N := 58) rfl ?_); refine Kd.R_make (Kd.int .u32) _ 37 rfl (N := 58) rfl 22 _ _ rfl (t508.length : Int) rfl rfl Try.underlying22 (.int .u32 0) 4 info37 rfl (by decide) (by omega) 0 (ok := fun _ => True) (okp := fun _ => True) rfl (fun _ hk => hk) trivial od_ (Nat.le_trans (Nat.mul_le_mul_right _ (od_ : (t508.length : Int).toNat ≤ 70368744177664)) (by omega)) (Below.refl _ _) (Nat.le_refl _) ?_; intro v513 w24 ho25 hb hg_ hnew_; clear hg_ hnew_; (first | rw [← Ny512.out] at ho25 | (simp only [Int.reduceToNat] at ho25; rw [← Ny512.out] at ho25)); have n0_ := A0_ (Kd.R_elder' (mvR HO495.out) (Kd.R_base ho25) hb); have n1_ := A0_ (Kd.R_elder' (mvR HO507.out) (Kd.R_base ho25) hb); have n2_ := A0_ (Kd.R_elder' (mvR HO511.out) (Kd.R_base ho25) hb); have n3_ := A0_ (Kd.R_lower (Kd.R_new' (Kd.R_new' (Kd.R_new' ho25 (Kd.R_lt (mvR HO495.out))) (Kd.R_lt (mvR HO507.out))) (Kd.R_lt (mvR HO511.out))) (below_size bl_)); have n4_ := A0_ (below_step bl_ hb); clear HO495; clear HO507; clear HO511; clear HB; have HO495 := n0_; have HO507 := n1_; have HO511 := n2_; have HO514 := n3_; have HB := n4_; clear n0_ n1_ n2_ n3_ n4_; clear hb ho25))
      go_loopg [14, 15] k (fun kq v14 v15 w' => ∃ (x13_1 : List Int) (x14_1 : List Int) (x15_1 : Int), v15 = .int .i64 x15_1 ∧ Aside0 (astrolaberef03_DivMod.l0 kq t504 (wrap64 ((wrap64 (32 * (t493.length : Int))) - t503)) t508 x13_1 x14_1 x15_1 = some (r1, r2, r3)) ∧ Aside0 (kq ≤ k) ∧ Aside0 (Kd.R (Kd.int .u32) 37 w' w.heap.size (fun k_ => some k_ ≠ ((.slice Ao23 t508.length co23) : Value).ownBlock ∧ some k_ ≠ (v513 : Value).ownBlock ∧ some k_ ≠ (v14 : Value).ownBlock) v506 t504) ∧ Aside0 (Kd.R (Kd.int .u32) 37 w' w.heap.size (fun k_ => some k_ ≠ (v506 : Value).ownBlock ∧ some k_ ≠ (v513 : Value).ownBlock ∧ some k_ ≠ (v14 : Value).ownBlock) (.slice Ao23 t508.length co23) t508) ∧ Aside0 (Kd.R (Kd.int .u32) 37 w' w.heap.size (fun k_ => some k_ ≠ (v506 : Value).ownBlock ∧ some k_ ≠ ((.slice Ao23 t508.length co23) : Value).ownBlock ∧ some k_ ≠ (v14 : Value).ownBlock) v513 x13_1) ∧ Aside0 (Kd.R (Kd.int .u32) 37 w' w.heap.size (fun k_ => some k_ ≠ (v506 : Value).ownBlock ∧ some k_ ≠ ((.slice Ao23 t508.length co23) : Value).ownBlock ∧ some k_ ≠ (v513 : Value).ownBlock) v14 x14_1) ∧ Aside0 (Below w.heap.size w w'))
      case atStart => exact ⟨(y512), (([] : List Int)), (wrap64 ((t508.length : Int) - 1)), rs_, H', ⟨Nat.le_refl _⟩, ⟨mvR (Kd.R_mono HO507.out (fun _ hk => ⟨hk.1.2, ⟨hk.2, (by simp [Value.ownBlock])⟩⟩))⟩, ⟨mvR (Kd.R_mono HO511.out (fun _ hk => ⟨hk.1.2, ⟨hk.2, (by simp [Value.ownBlock])⟩⟩))⟩, ⟨mvR (Kd.R_mono HO514.out (fun _ hk => ⟨hk.1.2, ⟨hk.2, (by simp [Value.ownBlock])⟩⟩))⟩, ⟨by first | exact Kd.R_nil _ _ _ _ _ | exact Kd.N_nil _ _ _ _ _ | exact Kd.V_nil _ _ _ _ _ | exact Kd.Q_nil _ _ _ _ _ | exact Kd.S_nil _ _ _ _ _⟩, ⟨bl_⟩⟩
      case round =>
        clear H'
        (try clear c1); (try clear c2); (try clear p2); (try clear c3); (try clear c4); (try clear c4b0); (try clear c4b1); (try clear c4b2); (try clear p4); (try clear q4); (try clear hx4); (try clear qi4); (try clear p6); (try clear c7); (try clear c7b0); (try clear c7b1); (try clear c8); (try clear c8b0); (try clear c8b1); (try clear c13); (try clear c16); (try clear c16b0); (try clear c16b1); (try clear c17)
        (try clear c17b0); (try clear c17b1); (try clear hx496_0); (try clear p496); (try clear q496)
        obtain ⟨x13_1, x14_1, x15_1, rfl, HA, HK1, HO_7, HO_11, HO_13, HO_14, HB⟩ := hrel
        cases gk with
        | zero => exact absurd HA.out (by simp [astrolaberef03_DivMod.l0])
        | succ k1 =>
          have H := HA.out
          clear HA
          simp only [astrolaberef03_DivMod.l0] at H
          by_cases c26 : x15_1 ≥ 0
          · rw [if_pos c26] at H
            have c26b0 : decide (0 ≤ x15_1) = true := decide_eq_true c26
            clear c26
            by_cases c27 : 0 ≤ x15_1
            case neg => rw [if_neg c27] at H; exact absurd H (by simp)
            rw [if_pos c27] at H
            have c27b0 : decide (0 ≤ x15_1) = true := decide_eq_true c27
            clear c27
            by_cases c28 : x15_1 < (t508.length : Int)
            case neg => rw [if_neg c28] at H; exact absurd H (by simp)
            rw [if_pos c28] at H
            have c28b0 : decide (x15_1 < (t508.length : Int)) = true := decide_eq_true c28
            clear c28
            obtain ⟨y522, hy522⟩ : ∃ y_ : List Int, y_ = (([rd t508 x15_1] : List Int)) := ⟨_, rfl⟩
            replace H : (if y522.length + x14_1.length < 35184372088832 then ((astrolaberef01_Trim.f k1 (y522 ++ x14_1)).bind fun t528 => ((astrolaberef03_guess.f t528 t504).bind fun t531 => ((astrolaberef01_From.f k1 t531).bind fun t532 => ((astrolaberef01_Mul.f k1 t504 t532).bind fun t535 => ((astrolaberef01_Sub.f k1 t528 t535).bind fun bt538 => (astrolaberef03_DivMod.l1 k1 t504 (wrap64 ((wrap64 (32 * (t493.length : Int))) - t503)) t508 x13_1 t528 x15_1 t531 bt538.1 bt538.2)))))) else (none)) = some (r1, r2, r3) := by first | (rw [hy522]; with_reducible exact H) | (rw [hy522]; exact H) | exact H
            have Ny522 := A0_ hy522
            clear hy522
            by_cases c29 : y522.length + x14_1.length < 35184372088832
            case neg => rw [if_neg c29] at H; exact absurd H (by simp)
            rw [if_pos c29] at H
            have LMc29 := A0_ c29
            clear c29
            obtain ⟨y525, hy525⟩ : ∃ y_ : List Int, y_ = (y522 ++ x14_1) := ⟨_, rfl⟩
            replace H : ((astrolaberef01_Trim.f k1 y525).bind fun t528 => ((astrolaberef03_guess.f t528 t504).bind fun t531 => ((astrolaberef01_From.f k1 t531).bind fun t532 => ((astrolaberef01_Mul.f k1 t504 t532).bind fun t535 => ((astrolaberef01_Sub.f k1 t528 t535).bind fun bt538 => (astrolaberef03_DivMod.l1 k1 t504 (wrap64 ((wrap64 (32 * (t493.length : Int))) - t503)) t508 x13_1 t528 x15_1 t531 bt538.1 bt538.2)))))) = some (r1, r2, r3) := by first | (rw [hy525]; with_reducible exact H) | (rw [hy525]; exact H) | exact H
            have Ny525 := A0_ hy525
            clear hy525
            replace H := Option.bind_eq_some_iff.mp H
            obtain ⟨t528, A300, H⟩ := H
            (try dsimp only at H)
            have A30 := A0_ A300
            clear A300
            replace H := Option.bind_eq_some_iff.mp H
            obtain ⟨t531, A310, H⟩ := H
            (try dsimp only at H)
            have A31 := A0_ A310
            clear A310
            replace H := Option.bind_eq_some_iff.mp H
            obtain ⟨t532, A320, H⟩ := H
            (try dsimp only at H)
            have A32 := A0_ A320
            clear A320
            replace H := Option.bind_eq_some_iff.mp H
            obtain ⟨t535, A330, H⟩ := H
            (try dsimp only at H)
            have A33 := A0_ A330
            clear A330
            replace H := Option.bind_eq_some_iff.mp H
            obtain ⟨⟨t538, t539⟩, A340, H⟩ := H
            (try dsimp only at H)
            have A34 := A0_ A340
            clear A340
            have H' := A0_ H
            clear H
            have p521 : 0 ≤ (x15_1 : Int) := od_
            have q521 : x15_1 < (t508.length : Int) := od_
            obtain ⟨ad521, e521, hx521_0⟩ := Kd.at_int (Kd.R_reads' HO_11.out).2.2 x15_1 p521 q521
            cases e521
            replace p521 := eq_true p521
            replace q521 := eq_true q521
            go_wp2_with (first | ((with_reducible refine gate_dst (N := 70) rfl ?_); refine Kd.R_lit (Kd.int .u32) _ 37 ?hg (N := 70) ?hd (xs := ([rd t508 x15_1] : List Int)) (inner := [.int .u32 (rd t508 x15_1)]) (ok := fun _ => True) (okp := fun _ => True) ?hr ?hp (fun _ hk => hk) trivial (Below.refl _ _) (Nat.le_refl _) (by simp) ?_; (case hd => rfl); (case hg => rfl); (case hr => first | (go_simp; done) | (go_simp; rfl)); (case hp => exact (Reps.one (show Kd.M (Kd.int .u32) _ _ _ (rd t508 x15_1) [.int .u32 (rd t508 x15_1)] from rfl) (Reps.none _ _))); intro v523 w35 ho36 hb hg_ hnew_; clear hg_ hnew_; (first | rw [← Ny522.out] at ho36 | (simp only [Int.reduceToNat] at ho36; rw [← Ny522.out] at ho36)); have n0_ := A0_ (Kd.R_elder' (mvR HO_7.out) (Kd.R_base ho36) hb); have n1_ := A0_ (Kd.R_elder' (mvR HO_11.out) (Kd.R_base ho36) hb); have n2_ := A0_ (Kd.R_elder' (mvR HO_13.out) (Kd.R_base ho36) hb); have n3_ := A0_ (Kd.R_elder' (mvR HO_14.out) (Kd.R_base ho36) hb); have n4_ := A0_ (Kd.R_lower (Kd.R_new' (Kd.R_new' (Kd.R_new' (Kd.R_new' ho36 (Kd.R_lt (mvR HO_7.out))) (Kd.R_lt (mvR HO_11.out))) (Kd.R_lt (mvR HO_13.out))) (Kd.R_lt (mvR HO_14.out))) (below_size bl_)); have n5_ := A0_ (below_step bl_ hb); clear HO_7; clear HO_11; clear HO_13; clear HO_14; clear HB; have HO_7 := n0_; have HO_11 := n1_; have HO_13 := n2_; have HO_14 := n3_; have HO524 := n4_; have HB := n5_; clear n0_ n1_ n2_ n3_ n4_ n5_; clear hb ho36; obtain ⟨Ao38, co38, eo38⟩ := Kd.R_slice HO_14.out; subst eo38) | ((with_reducible refine gate_builtin (b := .append) (xs := #[.tmp 70, .tmp 71]) rfl ?_); at_builtin; refine Kd.R_append_rows (Kd.int .u32) (w0 := w) w.heap.size rfl (.tmp 70) (.tmp 71) 22 37 (.int .u32 0) 4 rfl Try.underlying22 info37 rfl (by decide) (by omega) v523 y522 x14_1 _ _ _ (fun k_ => some k_ ≠ (v506 : Value).ownBlock ∧ some k_ ≠ (.slice (some ad521) t508.length co23 : Value).ownBlock ∧ some k_ ≠ (v513 : Value).ownBlock ∧ some k_ ≠ (.slice Ao38 x14_1.length co38 : Value).ownBlock) (fun _ => False) rfl rfl ?aO ?aR (fun _ _ h => h) (fun _ h => h.elim) ?aF ?aB ?aS ?aL ?_; (case aR => exact mvC (Kd.R_reads' HO_14.out).2.2); (case aB => exact bl_); (case aF => exact (fun k_ hk => ⟨Kd.fresh' (Kd.R_lt (mvR HO_7.out)) k_ hk, Kd.fresh' (Kd.R_lt (mvR HO_11.out)) k_ hk, Kd.fresh' (Kd.R_lt (mvR HO_13.out)) k_ hk, Kd.fresh' (Kd.R_lt (mvR HO_14.out)) k_ hk⟩)); (case aO => exact (mvR (Kd.R_mono HO524.out (fun _ hk => ⟨hk.1.1.1.2, ⟨hk.1.1.2, ⟨hk.1.2, hk.2⟩⟩⟩)))); (case aS => exact (below_size bl_)); (case aL => have := LMc29.out; omega); intro v526 w37 ho hb hg hat; rw [← Ny525.out] at ho; have n0_ := A0_ (Kd.R_after (ok := (fun k_ => some k_ ≠ (.slice (some ad521) t508.length co23 : Value).ownBlock ∧ some k_ ≠ (v513 : Value).ownBlock ∧ some k_ ≠ (.slice Ao38 x14_1.length co38 : Value).ownBlock)) (mvR HO_7.out) hg hat); have n1_ := A0_ (Kd.R_after (ok := (fun k_ => some k_ ≠ (v506 : Value).ownBlock ∧ some k_ ≠ (v513 : Value).ownBlock ∧ some k_ ≠ (.slice Ao38 x14_1.length co38 : Value).ownBlock)) (mvR HO_11.out) hg hat); have n2_ := A0_ (Kd.R_after (ok := (fun k_ => some k_ ≠ (v506 : Value).ownBlock ∧ some k_ ≠ (.slice (some ad521) t508.length co23 : Value).ownBlock ∧ some k_ ≠ (.slice Ao38 x14_1.length co38 : Value).ownBlock)) (mvR HO_13.out) hg hat); have n3_ := A0_ (Kd.R_after (ok := (fun k_ => some k_ ≠ (v506 : Value).ownBlock ∧ some k_ ≠ (.slice (some ad521) t508.length co23 : Value).ownBlock ∧ some k_ ≠ (v513 : Value).ownBlock)) (mvR HO_14.out) hg hat); have n4_ := A0_ (hb); have n5_ := A0_ (ho); clear HO_7; clear HO_11; clear HO_13; clear HO_14; clear HB; clear HO524; have HO_7 := n0_; have HO_11 := n1_; have HO_13 := n2_; have HO_14 := n3_; have HB := n4_; have HO527 := n5_; clear n0_ n1_ n2_ n3_ n4_ n5_; clear ho hb hg hat; obtain ⟨Ao39, co39, eo39⟩ := Kd.R_slice HO527.out; subst eo39) | ((with_reducible refine gate_callee (f := 29) rfl ?_); refine goesM_ (some 73) Try.func29 #[.slice Ao39 y525.length co39] rfl ?_; (with_reducible refine (astrolaberef01_Trim.calls k1 _ _ y525 t528 _ ?side1 ?side2 A30.out).mono ?_); (case side1 => exact mvC (Kd.R_reads' HO527.out).2.2); (case side2 => exact (Kd.R_reads' HO527.out).2.1); rintro e w40 ⟨v529, rfl, ho0, hb⟩; refine ⟨_, rfl, ?_⟩; have n0_ := A0_ (Kd.R_elder' (mvR HO_7.out) (Kd.R_base ho0) hb); have n1_ := A0_ (Kd.R_elder' (mvR HO_11.out) (Kd.R_base ho0) hb); have n2_ := A0_ (Kd.R_elder' (mvR HO_13.out) (Kd.R_base ho0) hb); have n3_ := A0_ (Kd.R_elder' (mvR HO_14.out) (Kd.R_base ho0) hb); have n4_ := A0_ (Kd.R_elder' (mvR HO527.out) (Kd.R_base ho0) hb); have n5_ := A0_ (Kd.R_lower (Kd.R_new' (Kd.R_new' (Kd.R_new' (Kd.R_new' (Kd.R_new' ho0 (Kd.R_lt (mvR HO_7.out))) (Kd.R_lt (mvR HO_11.out))) (Kd.R_lt (mvR HO_13.out))) (Kd.R_lt (mvR HO_14.out))) (Kd.R_lt (mvR HO527.out))) (below_size bl_)); have n6_ := A0_ (below_step bl_ hb); clear HO_7; clear HO_11; clear HO_13; clear HO_14; clear HO527; clear HB; have HO_7 := n0_; have HO_11 := n1_; have HO_13 := n2_; have HO_14 := n3_; have HO527 := n4_; have HO530 := n5_; have HB := n6_; clear n0_ n1_ n2_ n3_ n4_ n5_ n6_; (try clear hb); (try clear hb2); (try clear hk); (try clear hi); (try clear ho0); obtain ⟨Ao41, co41, eo41⟩ := Kd.R_slice HO530.out; subst eo41; obtain ⟨Ao42, co42, eo42⟩ := Kd.R_slice HO_7.out; subst eo42) | ((with_reducible refine gate_callee (f := 33) rfl ?_); refine goesM_ (some 76) Try.func33 #[.slice Ao41 t528.length co41, .slice Ao42 t504.length co42] rfl ?_; (with_reducible refine (astrolaberef03_guess.calls _ _ t528 _ _ t504 t531 _ ?side1 ?side2 ?side3 ?side4 A31.out).mono ?_); (case side1 => exact mvC (Kd.R_reads' HO530.out).2.2); (case side2 => exact (Kd.R_reads' HO530.out).2.1); (case side3 => exact mvC (Kd.R_reads' HO_7.out).2.2); (case side4 => exact (Kd.R_reads' HO_7.out).2.1); rintro e w43 ⟨rfl, hb⟩; refine ⟨_, rfl, ?_⟩; have n0_ := A0_ (Kd.R_below (mvR HO_7.out) hb); have n1_ := A0_ (Kd.R_below (mvR HO_11.out) hb); have n2_ := A0_ (Kd.R_below (mvR HO_13.out) hb); have n3_ := A0_ (Kd.R_below (mvR HO_14.out) hb); have n4_ := A0_ (Kd.R_below (mvR HO527.out) hb); have n5_ := A0_ (Kd.R_below (mvR HO530.out) hb); have n6_ := A0_ (below_step bl_ hb); clear HO_7; clear HO_11; clear HO_13; clear HO_14; clear HO527; clear HO530; clear HB; have HO_7 := n0_; have HO_11 := n1_; have HO_13 := n2_; have HO_14 := n3_; have HO527 := n4_; have HO530 := n5_; have HB := n6_; clear n0_ n1_ n2_ n3_ n4_ n5_ n6_; (try clear hb); (try clear hb2); (try clear hk); (try clear hi)) | ((with_reducible refine gate_callee (f := 36) rfl ?_); refine goesM_ (some 81) Try.func36 #[.int .u64 t531] rfl ?_; (with_reducible refine (astrolaberef01_From.calls k1 t531 t532 _ A32.out).mono ?_); rintro e w44 ⟨v533, rfl, ho0, hb⟩; refine ⟨_, rfl, ?_⟩; have n0_ := A0_ (Kd.R_elder' (mvR HO_7.out) (Kd.R_base ho0) hb); have n1_ := A0_ (Kd.R_elder' (mvR HO_11.out) (Kd.R_base ho0) hb); have n2_ := A0_ (Kd.R_elder' (mvR HO_13.out) (Kd.R_base ho0) hb); have n3_ := A0_ (Kd.R_elder' (mvR HO_14.out) (Kd.R_base ho0) hb); have n4_ := A0_ (Kd.R_elder' (mvR HO527.out) (Kd.R_base ho0) hb); have n5_ := A0_ (Kd.R_elder' (mvR HO530.out) (Kd.R_base ho0) hb); have n6_ := A0_ (Kd.R_lower (Kd.R_new' (Kd.R_new' (Kd.R_new' (Kd.R_new' (Kd.R_new' (Kd.R_new' ho0 (Kd.R_lt (mvR HO_7.out))) (Kd.R_lt (mvR HO_11.out))) (Kd.R_lt (mvR HO_13.out))) (Kd.R_lt (mvR HO_14.out))) (Kd.R_lt (mvR HO527.out))) (Kd.R_lt (mvR HO530.out))) (below_size bl_)); have n7_ := A0_ (below_step bl_ hb); clear HO_7; clear HO_11; clear HO_13; clear HO_14; clear HO527; clear HO530; clear HB; have HO_7 := n0_; have HO_11 := n1_; have HO_13 := n2_; have HO_14 := n3_; have HO527 := n4_; have HO530 := n5_; have HO534 := n6_; have HB := n7_; clear n0_ n1_ n2_ n3_ n4_ n5_ n6_ n7_; (try clear hb); (try clear hb2); (try clear hk); (try clear hi); (try clear ho0); obtain ⟨Ao45, co45, eo45⟩ := Kd.R_slice HO534.out; subst eo45) | ((with_reducible refine gate_callee (f := 35) rfl ?_); refine goesM_ (some 82) Try.func35 #[.slice Ao42 t504.length co42, .slice Ao45 t532.length co45] rfl ?_; (with_reducible refine (astrolaberef01_Mul.calls k1 _ _ t504 _ _ t532 t535 _ ?side1 ?side2 ?side3 ?side4 A33.out).mono ?_); (case side1 => exact mvC (Kd.R_reads' HO_7.out).2.2); (case side2 => exact (Kd.R_reads' HO_7.out).2.1); (case side3 => exact mvC (Kd.R_reads' HO534.out).2.2); (case side4 => exact (Kd.R_reads' HO534.out).2.1); rintro e w46 ⟨v536, rfl, ho0, hb⟩; refine ⟨_, rfl, ?_⟩; have n0_ := A0_ (Kd.R_elder' (mvR HO_7.out) (Kd.R_base ho0) hb); have n1_ := A0_ (Kd.R_elder' (mvR HO_11.out) (Kd.R_base ho0) hb); have n2_ := A0_ (Kd.R_elder' (mvR HO_13.out) (Kd.R_base ho0) hb); have n3_ := A0_ (Kd.R_elder' (mvR HO_14.out) (Kd.R_base ho0) hb); have n4_ := A0_ (Kd.R_elder' (mvR HO527.out) (Kd.R_base ho0) hb); have n5_ := A0_ (Kd.R_elder' (mvR HO530.out) (Kd.R_base ho0) hb); have n6_ := A0_ (Kd.R_elder' (mvR HO534.out) (Kd.R_base ho0) hb); have n7_ := A0_ (Kd.R_lower (Kd.R_new' (Kd.R_new' (Kd.R_new' (Kd.R_new' (Kd.R_new' (Kd.R_new' (Kd.R_new' ho0 (Kd.R_lt (mvR HO_7.out))) (Kd.R_lt (mvR HO_11.out))) (Kd.R_lt (mvR HO_13.out))) (Kd.R_lt (mvR HO_14.out))) (Kd.R_lt (mvR HO527.out))) (Kd.R_lt (mvR HO530.out))) (Kd.R_lt (mvR HO534.out))) (below_size bl_)); have n8_ := A0_ (below_step bl_ hb); clear HO_7; clear HO_11; clear HO_13; clear HO_14; clear HO527; clear HO530; clear HO534; clear HB; have HO_7 := n0_; have HO_11 := n1_; have HO_13 := n2_; have HO_14 := n3_; have HO527 := n4_; have HO530 := n5_; have HO534 := n6_; have HO537 := n7_; have HB := n8_; clear n0_ n1_ n2_ n3_ n4_ n5_ n6_ n7_ n8_; (try clear hb); (try clear hb2); (try clear hk); (try clear hi); (try clear ho0); obtain ⟨Ao47, co47, eo47⟩ := Kd.R_slice HO537.out; subst eo47) | ((with_reducible refine gate_callee (f := 34) rfl ?_); refine goesM_ (some 83) Try.func34 #[.slice Ao41 t528.length co41, .slice Ao47 t535.length co47] rfl ?_; (with_reducible refine (astrolaberef01_Sub.calls k1 _ _ t528 _ _ t535 t538 t539 _ ?side1 ?side2 ?side3 ?side4 A34.out).mono ?_); (case side1 => exact mvC (Kd.R_reads' HO530.out).2.2); (case side2 => exact (Kd.R_reads' HO530.out).2.1); (case side3 => exact mvC (Kd.R_reads' HO537.out).2.2); (case side4 => exact (Kd.R_reads' HO537.out).2.1); rintro e w48 ⟨v540, rfl, ho0, hb⟩; refine ⟨_, rfl, ?_⟩; have n0_ := A0_ (Kd.R_elder' (mvR HO_7.out) (Kd.R_base ho0) hb); have n1_ := A0_ (Kd.R_elder' (mvR HO_11.out) (Kd.R_base ho0) hb); have n2_ := A0_ (Kd.R_elder' (mvR HO_13.out) (Kd.R_base ho0) hb); have n3_ := A0_ (Kd.R_elder' (mvR HO_14.out) (Kd.R_base ho0) hb); have n4_ := A0_ (Kd.R_elder' (mvR HO527.out) (Kd.R_base ho0) hb); have n5_ := A0_ (Kd.R_elder' (mvR HO530.out) (Kd.R_base ho0) hb); have n6_ := A0_ (Kd.R_elder' (mvR HO534.out) (Kd.R_base ho0) hb); have n7_ := A0_ (Kd.R_elder' (mvR HO537.out) (Kd.R_base ho0) hb); have n8_ := A0_ (Kd.R_lower (Kd.R_new' (Kd.R_new' (Kd.R_new' (Kd.R_new' (Kd.R_new' (Kd.R_new' (Kd.R_new' (Kd.R_new' ho0 (Kd.R_lt (mvR HO_7.out))) (Kd.R_lt (mvR HO_11.out))) (Kd.R_lt (mvR HO_13.out))) (Kd.R_lt (mvR HO_14.out))) (Kd.R_lt (mvR HO527.out))) (Kd.R_lt (mvR HO530.out))) (Kd.R_lt (mvR HO534.out))) (Kd.R_lt (mvR HO537.out))) (below_size bl_)); have n9_ := A0_ (below_step bl_ hb); clear HO_7; clear HO_11; clear HO_13; clear HO_14; clear HO527; clear HO530; clear HO534; clear HO537; clear HB; have HO_7 := n0_; have HO_11 := n1_; have HO_13 := n2_; have HO_14 := n3_; have HO527 := n4_; have HO530 := n5_; have HO534 := n6_; have HO537 := n7_; have HO541 := n8_; have HB := n9_; clear n0_ n1_ n2_ n3_ n4_ n5_ n6_ n7_ n8_ n9_; (try clear hb); (try clear hb2); (try clear hk); (try clear hi); (try clear ho0)))
            go_loopg [16, 17, 18] k1 (fun kq v16 v17 v18 w' => ∃ (x16_2 : Int) (x17_2 : List Int) (x18_2 : Bool), v16 = .int .u64 x16_2 ∧ v18 = .bool x18_2 ∧ Aside0 (astrolaberef03_DivMod.l1 kq t504 (wrap64 ((wrap64 (32 * (t493.length : Int))) - t503)) t508 x13_1 t528 x15_1 x16_2 x17_2 x18_2 = some (r1, r2, r3)) ∧ Aside0 (kq ≤ k1) ∧ Aside0 (Kd.R (Kd.int .u32) 37 w' w.heap.size (fun k_ => some k_ ≠ ((.slice (some ad521) t508.length co23) : Value).ownBlock ∧ some k_ ≠ (v513 : Value).ownBlock ∧ some k_ ≠ ((.slice Ao41 t528.length co41) : Value).ownBlock ∧ some k_ ≠ (v17 : Value).ownBlock) (.slice Ao42 t504.length co42) t504) ∧ Aside0 (Kd.R (Kd.int .u32) 37 w' w.heap.size (fun k_ => some k_ ≠ ((.slice Ao42 t504.length co42) : Value).ownBlock ∧ some k_ ≠ (v513 : Value).ownBlock ∧ some k_ ≠ ((.slice Ao41 t528.length co41) : Value).ownBlock ∧ some k_ ≠ (v17 : Value).ownBlock) (.slice (some ad521) t508.length co23) t508) ∧ Aside0 (Kd.R (Kd.int .u32) 37 w' w.heap.size (fun k_ => some k_ ≠ ((.slice Ao42 t504.length co42) : Value).ownBlock ∧ some k_ ≠ ((.slice (some ad521) t508.length co23) : Value).ownBlock ∧ some k_ ≠ ((.slice Ao41 t528.length co41) : Value).ownBlock ∧ some k_ ≠ (v17 : Value).ownBlock) v513 x13_1) ∧ Aside0 (Kd.R (Kd.int .u32) 37 w' w.heap.size (fun k_ => some k_ ≠ ((.slice Ao42 t504.length co42) : Value).ownBlock ∧ some k_ ≠ ((.slice (some ad521) t508.length co23) : Value).ownBlock ∧ some k_ ≠ (v513 : Value).ownBlock ∧ some k_ ≠ (v17 : Value).ownBlock) (.slice Ao41 t528.length co41) t528) ∧ Aside0 (Kd.R (Kd.int .u32) 37 w' w.heap.size (fun k_ => some k_ ≠ ((.slice Ao42 t504.length co42) : Value).ownBlock ∧ some k_ ≠ ((.slice (some ad521) t508.length co23) : Value).ownBlock ∧ some k_ ≠ (v513 : Value).ownBlock ∧ some k_ ≠ ((.slice Ao41 t528.length co41) : Value).ownBlock) v17 x17_2) ∧ Aside0 (Below w.heap.size w w'))
            case atStart => exact ⟨(t531), (t538), (t539), rs_, rs_, H', ⟨Nat.le_refl _⟩, ⟨mvR (Kd.R_mono HO_7.out (fun _ hk => ⟨hk.1.1.1.1.1.1, ⟨hk.1.1.1.1.1.2.1, ⟨hk.1.1.1.2, hk.2⟩⟩⟩))⟩, ⟨mvR (Kd.R_mono HO_11.out (fun _ hk => ⟨hk.1.1.1.1.1.1, ⟨hk.1.1.1.1.1.2.1, ⟨hk.1.1.1.2, hk.2⟩⟩⟩))⟩, ⟨mvR (Kd.R_mono HO_13.out (fun _ hk => ⟨hk.1.1.1.1.1.1, ⟨hk.1.1.1.1.1.2.1, ⟨hk.1.1.1.2, hk.2⟩⟩⟩))⟩, ⟨mvR (Kd.R_mono HO530.out (fun _ hk => ⟨hk.1.1.1.1.1.1.1.2, ⟨hk.1.1.1.1.1.1.2, ⟨hk.1.1.1.1.1.2, hk.2⟩⟩⟩))⟩, ⟨mvR (Kd.R_mono HO541.out (fun _ hk => ⟨hk.1.1.1.1.1.1.1.2, ⟨hk.1.1.1.1.1.1.2, ⟨hk.1.1.1.1.1.2, hk.1.1.2⟩⟩⟩))⟩, ⟨bl_⟩⟩
            case round =>
              clear H'
              (try clear c1); (try clear c2); (try clear p2); (try clear c3); (try clear c4); (try clear c4b0); (try clear c4b1); (try clear c4b2); (try clear p4); (try clear q4); (try clear hx4); (try clear qi4); (try clear p5); (try clear q5); (try clear hx5); (try clear p6); (try clear c7); (try clear c7b0); (try clear c7b1); (try clear c8); (try clear c8b0); (try clear c8b1); (try clear c13); (try clear c16)
              (try clear c16b0); (try clear c16b1); (try clear c17); (try clear c17b0); (try clear c17b1); (try clear c26); (try clear c26b0); (try clear c27); (try clear c27b0); (try clear c28); (try clear c28b0); (try clear c29); (try clear c30); (try clear c31); (try clear c32); (try clear c33); (try clear c34); (try clear c35); (try clear c36); (try clear hx496_0); (try clear hx521_0); (try clear p2)
              (try clear p4); (try clear p496); (try clear p521); (try clear p6); (try clear q4); (try clear q496); (try clear q521)
              obtain ⟨x16_2, x17_2, x18_2, rfl, rfl, HA, HK2, HO_7, HO_11, HO_13, HO_14, HO_17, HB⟩ := hrel
              cases gk with
              | zero => exact absurd HA.out (by simp [astrolaberef03_DivMod.l1])
              | succ k2 =>
                have H := HA.out
                clear HA
                simp only [astrolaberef03_DivMod.l1] at H
                by_cases c49 : x18_2 = true
                · subst c49
                  have H1 : (if 0 ≤ x15_1 then (if x15_1 < (x13_1.length : Int) then (astrolaberef03_DivMod.l0 k2 t504 (wrap64 ((wrap64 (32 * (t493.length : Int))) - t503)) t508 (x13_1.set (x15_1 : Int).toNat ((x16_2) % 4294967296)) x17_2 (wrap64 (x15_1 - 1))) else (none)) else (none)) = some (r1, r2, r3) := by rw [if_pos rfl] at H; exact H
                  clear H
                  have H := H1
                  clear H1
                  by_cases c50 : 0 ≤ x15_1
                  case neg => rw [if_neg c50] at H; exact absurd H (by simp)
                  rw [if_pos c50] at H
                  have c50b0 : decide (0 ≤ x15_1) = true := decide_eq_true c50
                  clear c50
                  by_cases c51 : x15_1 < (x13_1.length : Int)
                  case neg => rw [if_neg c51] at H; exact absurd H (by simp)
                  rw [if_pos c51] at H
                  have c51b0 : decide (x15_1 < (x13_1.length : Int)) = true := decide_eq_true c51
                  clear c51
                  obtain ⟨y542, hy542⟩ : ∃ y_ : List Int, y_ = (x13_1.set (x15_1 : Int).toNat ((x16_2) % 4294967296)) := ⟨_, rfl⟩
                  replace H : (astrolaberef03_DivMod.l0 k2 t504 (wrap64 ((wrap64 (32 * (t493.length : Int))) - t503)) t508 y542 x17_2 (wrap64 (x15_1 - 1))) = some (r1, r2, r3) := by first | (rw [hy542]; with_reducible exact H) | (rw [hy542]; exact H) | exact H
                  have Ny542 := A0_ hy542
                  clear hy542
                  have H' := A0_ H
                  clear H
                  have p52 : 0 ≤ (x15_1 : Int) := od_
                  have q52 : (x15_1 : Int) < ((x13_1.length : Int) : Int) := od_
                  obtain ⟨go52, co52, eo52, gb52, gl52, cl52, HG52⟩ := Kd.R_form HO_13.out (by omega)
                  (first | cases eo52 | (injection eo52 with ea_ en_ ec_; (first | subst ea_ | (injection ea_ with ea_; subst ea_)); subst ec_; clear en_))
                  have GB52 := A0_ gb52
                  have GG52 := A0_ HG52
                  clear gb52 gl52 HG52
                  obtain ⟨hx52_0, hf52_0⟩ := Kd.R_celln 0 HO_13.out (x15_1 : Int) p52 q52
                  replace p52 := eq_true p52
                  replace q52 := eq_true q52
                  have HP53 := Kd.R_putg HO_13.out (x15_1 : Int) ((x16_2) % 4294967296)
                  go_wp2_with (first | ((with_reducible refine gate_store (t := 37) (p := 103) rfl ?_); refine store_event (t := 37) (p := 103) (v := ?vo_w54) (w1 := (wr.setCell ⟨go52, (x15_1 : Int).toNat, none⟩ (.int .u32 ((x16_2) % 4294967296)))) ?hg ?ho ?hn ?hr ?_; (case ho => rfl); (case hg => rfl); (case hn => rfl); (case hr => first | (go_simp; done) | (go_simp; rfl)); intro w54 hw; have hg : wr.grownBy w54 (some go52) := (by rw [hw]; exact HP53.2); have hp_ : Kd.R (Kd.int .u32) 37 w54 w.heap.size (fun k_ => some k_ ≠ (.slice Ao42 t504.length co42 : Value).ownBlock ∧ some k_ ≠ (.slice (some ad521) t508.length co23 : Value).ownBlock ∧ some k_ ≠ (.slice Ao41 t528.length co41 : Value).ownBlock ∧ some k_ ≠ (u17 : Value).ownBlock) (.slice (some ⟨go52, 0, none⟩) x13_1.length co52) y542 := (by rw [hw, Ny542.out]; exact HP53.1); clear HP53; have n0_ := A0_ (Kd.R_after (v := (.slice (some ⟨go52, 0, none⟩) x13_1.length co52)) (v1 := (.slice (some ⟨go52, 0, none⟩) x13_1.length co52)) (ok := (fun k_ => some k_ ≠ (.slice (some ad521) t508.length co23 : Value).ownBlock ∧ some k_ ≠ (.slice Ao41 t528.length co41 : Value).ownBlock ∧ some k_ ≠ (u17 : Value).ownBlock)) (mvR (Kd.R_mono HO_7.out (fun _ hk => ⟨⟨hk.1, ⟨hk.2.2.1, hk.2.2.2⟩⟩, hk.2.1⟩))) hg (.inl rfl)); have n1_ := A0_ (Kd.R_after (v := (.slice (some ⟨go52, 0, none⟩) x13_1.length co52)) (v1 := (.slice (some ⟨go52, 0, none⟩) x13_1.length co52)) (ok := (fun k_ => some k_ ≠ (.slice Ao42 t504.length co42 : Value).ownBlock ∧ some k_ ≠ (.slice Ao41 t528.length co41 : Value).ownBlock ∧ some k_ ≠ (u17 : Value).ownBlock)) (mvR (Kd.R_mono HO_11.out (fun _ hk => ⟨⟨hk.1, ⟨hk.2.2.1, hk.2.2.2⟩⟩, hk.2.1⟩))) hg (.inl rfl)); have n2_ := A0_ (hp_); have n3_ := A0_ (Kd.R_after (v := (.slice (some ⟨go52, 0, none⟩) x13_1.length co52)) (v1 := (.slice (some ⟨go52, 0, none⟩) x13_1.length co52)) (ok := (fun k_ => some k_ ≠ (.slice Ao42 t504.length co42 : Value).ownBlock ∧ some k_ ≠ (.slice (some ad521) t508.length co23 : Value).ownBlock ∧ some k_ ≠ (u17 : Value).ownBlock)) (mvR (Kd.R_mono HO_14.out (fun _ hk => ⟨⟨hk.1, ⟨hk.2.1, hk.2.2.2⟩⟩, hk.2.2.1⟩))) hg (.inl rfl)); have n4_ := A0_ (Kd.R_after (v := (.slice (some ⟨go52, 0, none⟩) x13_1.length co52)) (v1 := (.slice (some ⟨go52, 0, none⟩) x13_1.length co52)) (ok := (fun k_ => some k_ ≠ (.slice Ao42 t504.length co42 : Value).ownBlock ∧ some k_ ≠ (.slice (some ad521) t508.length co23 : Value).ownBlock ∧ some k_ ≠ (.slice Ao41 t528.length co41 : Value).ownBlock)) (mvR (Kd.R_mono HO_17.out (fun _ hk => ⟨⟨hk.1, ⟨hk.2.1, hk.2.2.2⟩⟩, hk.2.2.1⟩))) hg (.inl rfl)); have n5_ := A0_ ((by rw [hw]; exact below_set (HB.out) GB52.out : Below w.heap.size w w54)); clear HO_7; clear HO_11; clear HO_13; clear HO_14; clear HO_17; clear HB; have HO_7 := n0_; have HO_11 := n1_; have HO_13 := n2_; have HO_14 := n3_; have HO_17 := n4_; have HB := n5_; clear n0_ n1_ n2_ n3_ n4_ n5_; clear hg hw hp_))
                  go_roundg k2
                  case measure => have := HK1.out; have := HK2.out; omega
                  case rel => exact ⟨(y542), (x17_2), (wrap64 (x15_1 - 1)), rs_, H', ⟨by have := HK1.out; have := HK2.out; omega⟩, ⟨mvR (Kd.R_mono HO_7.out (fun _ hk => ⟨hk.1.1, ⟨hk.2, hk.1.2.2⟩⟩))⟩, ⟨mvR (Kd.R_mono HO_11.out (fun _ hk => ⟨hk.1.1, ⟨hk.2, hk.1.2.2⟩⟩))⟩, ⟨mvR (Kd.R_mono HO_13.out (fun _ hk => ⟨hk.1, ⟨hk.2.1, hk.2.2.2⟩⟩))⟩, ⟨mvR (Kd.R_mono HO_17.out (fun _ hk => ⟨hk.1.1, ⟨hk.1.2.1, hk.2⟩⟩))⟩, ⟨bl_⟩⟩
                · replace c49 := Bool.eq_false_iff.mpr c49
                  subst c49
                  have H1 : ((astrolaberef01_From.f k2 (IntKind.u64.wrap (x16_2 - 1))).bind fun t543 => ((astrolaberef01_Mul.f k2 t504 t543).bind fun t546 => ((astrolaberef01_Sub.f k2 t528 t546).bind fun bt549 => (astrolaberef03_DivMod.l1 k2 t504 (wrap64 ((wrap64 (32 * (t493.length : Int))) - t503)) t508 x13_1 t528 x15_1 (IntKind.u64.wrap (x16_2 - 1)) bt549.1 bt549.2)))) = some (r1, r2, r3) := by rw [if_neg (show ¬ (false = true) by decide)] at H; exact H
                  clear H
                  have H := H1
                  clear H1
                  replace H := Option.bind_eq_some_iff.mp H
                  obtain ⟨t543, A550, H⟩ := H
                  (try dsimp only at H)
                  have A55 := A0_ A550
                  clear A550
                  replace H := Option.bind_eq_some_iff.mp H
                  obtain ⟨t546, A560, H⟩ := H
                  (try dsimp only at H)
                  have A56 := A0_ A560
                  clear A560
                  replace H := Option.bind_eq_some_iff.mp H
                  obtain ⟨⟨t549, t550⟩, A570, H⟩ := H
                  (try dsimp only at H)
                  have A57 := A0_ A570
                  clear A570
                  have H' := A0_ H
                  clear H
                  go_wp2_with (first | ((with_reducible refine gate_callee (f := 36) rfl ?_); refine goesM_ (some 94) Try.func36 #[.int .u64 (IntKind.u64.wrap (x16_2 - 1))] rfl ?_; (with_reducible refine (astrolaberef01_From.calls k2 (IntKind.u64.wrap (x16_2 - 1)) t543 _ A55.out).mono ?_); rintro e w58 ⟨v544, rfl, ho0, hb⟩; refine ⟨_, rfl, ?_⟩; have n0_ := A0_ (Kd.R_elder' (mvR HO_7.out) (Kd.R_base ho0) hb); have n1_ := A0_ (Kd.R_elder' (mvR HO_11.out) (Kd.R_base ho0) hb); have n2_ := A0_ (Kd.R_elder' (mvR HO_13.out) (Kd.R_base ho0) hb); have n3_ := A0_ (Kd.R_elder' (mvR HO_14.out) (Kd.R_base ho0) hb); have n4_ := A0_ (Kd.R_elder' (mvR HO_17.out) (Kd.R_base ho0) hb); have n5_ := A0_ (Kd.R_lower (Kd.R_new' (Kd.R_new' (Kd.R_new' (Kd.R_new' (Kd.R_new' ho0 (Kd.R_lt (mvR HO_7.out))) (Kd.R_lt (mvR HO_11.out))) (Kd.R_lt (mvR HO_13.out))) (Kd.R_lt (mvR HO_14.out))) (Kd.R_lt (mvR HO_17.out))) (below_size bl_)); have n6_ := A0_ (below_step bl_ hb); clear HO_7; clear HO_11; clear HO_13; clear HO_14; clear HO_17; clear HB; have HO_7 := n0_; have HO_11 := n1_; have HO_13 := n2_; have HO_14 := n3_; have HO_17 := n4_; have HO545 := n5_; have HB := n6_; clear n0_ n1_ n2_ n3_ n4_ n5_ n6_; (try clear hb); (try clear hb2); (try clear hk); (try clear hi); (try clear ho0); obtain ⟨Ao59, co59, eo59⟩ := Kd.R_slice HO545.out; subst eo59) | ((with_reducible refine gate_callee (f := 35) rfl ?_); refine goesM_ (some 95) Try.func35 #[.slice Ao42 t504.length co42, .slice Ao59 t543.length co59] rfl ?_; (with_reducible refine (astrolaberef01_Mul.calls k2 _ _ t504 _ _ t543 t546 _ ?side1 ?side2 ?side3 ?side4 A56.out).mono ?_); (case side1 => exact mvC (Kd.R_reads' HO_7.out).2.2); (case side2 => exact (Kd.R_reads' HO_7.out).2.1); (case side3 => exact mvC (Kd.R_reads' HO545.out).2.2); (case side4 => exact (Kd.R_reads' HO545.out).2.1); rintro e w60 ⟨v547, rfl, ho0, hb⟩; refine ⟨_, rfl, ?_⟩; have n0_ := A0_ (Kd.R_elder' (mvR HO_7.out) (Kd.R_base ho0) hb); have n1_ := A0_ (Kd.R_elder' (mvR HO_11.out) (Kd.R_base ho0) hb); have n2_ := A0_ (Kd.R_elder' (mvR HO_13.out) (Kd.R_base ho0) hb); have n3_ := A0_ (Kd.R_elder' (mvR HO_14.out) (Kd.R_base ho0) hb); have n4_ := A0_ (Kd.R_elder' (mvR HO_17.out) (Kd.R_base ho0) hb); have n5_ := A0_ (Kd.R_elder' (mvR HO545.out) (Kd.R_base ho0) hb); have n6_ := A0_ (Kd.R_lower (Kd.R_new' (Kd.R_new' (Kd.R_new' (Kd.R_new' (Kd.R_new' (Kd.R_new' ho0 (Kd.R_lt (mvR HO_7.out))) (Kd.R_lt (mvR HO_11.out))) (Kd.R_lt (mvR HO_13.out))) (Kd.R_lt (mvR HO_14.out))) (Kd.R_lt (mvR HO_17.out))) (Kd.R_lt (mvR HO545.out))) (below_size bl_)); have n7_ := A0_ (below_step bl_ hb); clear HO_7; clear HO_11; clear HO_13; clear HO_14; clear HO_17; clear HO545; clear HB; have HO_7 := n0_; have HO_11 := n1_; have HO_13 := n2_; have HO_14 := n3_; have HO_17 := n4_; have HO545 := n5_; have HO548 := n6_; have HB := n7_; clear n0_ n1_ n2_ n3_ n4_ n5_ n6_ n7_; (try clear hb); (try clear hb2); (try clear hk); (try clear hi); (try clear ho0); obtain ⟨Ao61, co61, eo61⟩ := Kd.R_slice HO548.out; subst eo61) | ((with_reducible refine gate_callee (f := 34) rfl ?_); refine goesM_ (some 96) Try.func34 #[.slice Ao41 t528.length co41, .slice Ao61 t546.length co61] rfl ?_; (with_reducible refine (astrolaberef01_Sub.calls k2 _ _ t528 _ _ t546 t549 t550 _ ?side1 ?side2 ?side3 ?side4 A57.out).mono ?_); (case side1 => exact mvC (Kd.R_reads' HO_14.out).2.2); (case side2 => exact (Kd.R_reads' HO_14.out).2.1); (case side3 => exact mvC (Kd.R_reads' HO548.out).2.2); (case side4 => exact (Kd.R_reads' HO548.out).2.1); rintro e w62 ⟨v551, rfl, ho0, hb⟩; refine ⟨_, rfl, ?_⟩; have n0_ := A0_ (Kd.R_elder' (mvR HO_7.out) (Kd.R_base ho0) hb); have n1_ := A0_ (Kd.R_elder' (mvR HO_11.out) (Kd.R_base ho0) hb); have n2_ := A0_ (Kd.R_elder' (mvR HO_13.out) (Kd.R_base ho0) hb); have n3_ := A0_ (Kd.R_elder' (mvR HO_14.out) (Kd.R_base ho0) hb); have n4_ := A0_ (Kd.R_elder' (mvR HO_17.out) (Kd.R_base ho0) hb); have n5_ := A0_ (Kd.R_elder' (mvR HO545.out) (Kd.R_base ho0) hb); have n6_ := A0_ (Kd.R_elder' (mvR HO548.out) (Kd.R_base ho0) hb); have n7_ := A0_ (Kd.R_lower (Kd.R_new' (Kd.R_new' (Kd.R_new' (Kd.R_new' (Kd.R_new' (Kd.R_new' (Kd.R_new' ho0 (Kd.R_lt (mvR HO_7.out))) (Kd.R_lt (mvR HO_11.out))) (Kd.R_lt (mvR HO_13.out))) (Kd.R_lt (mvR HO_14.out))) (Kd.R_lt (mvR HO_17.out))) (Kd.R_lt (mvR HO545.out))) (Kd.R_lt (mvR HO548.out))) (below_size bl_)); have n8_ := A0_ (below_step bl_ hb); clear HO_7; clear HO_11; clear HO_13; clear HO_14; clear HO_17; clear HO545; clear HO548; clear HB; have HO_7 := n0_; have HO_11 := n1_; have HO_13 := n2_; have HO_14 := n3_; have HO_17 := n4_; have HO545 := n5_; have HO548 := n6_; have HO552 := n7_; have HB := n8_; clear n0_ n1_ n2_ n3_ n4_ n5_ n6_ n7_ n8_; (try clear hb); (try clear hb2); (try clear hk); (try clear hi); (try clear ho0)))
                  go_roundg k2
                  case measure => have := HK1.out; have := HK2.out; omega
                  case rel => exact ⟨(IntKind.u64.wrap (x16_2 - 1)), (t549), (t550), rs_, rs_, H', ⟨by have := HK1.out; have := HK2.out; omega⟩, ⟨mvR (Kd.R_mono HO_7.out (fun _ hk => ⟨hk.1.1.1.1, ⟨hk.1.1.1.2.1, ⟨hk.1.1.1.2.2.1, hk.2⟩⟩⟩))⟩, ⟨mvR (Kd.R_mono HO_11.out (fun _ hk => ⟨hk.1.1.1.1, ⟨hk.1.1.1.2.1, ⟨hk.1.1.1.2.2.1, hk.2⟩⟩⟩))⟩, ⟨mvR (Kd.R_mono HO_13.out (fun _ hk => ⟨hk.1.1.1.1, ⟨hk.1.1.1.2.1, ⟨hk.1.1.1.2.2.1, hk.2⟩⟩⟩))⟩, ⟨mvR (Kd.R_mono HO_14.out (fun _ hk => ⟨hk.1.1.1.1, ⟨hk.1.1.1.2.1, ⟨hk.1.1.1.2.2.1, hk.2⟩⟩⟩))⟩, ⟨mvR (Kd.R_mono HO552.out (fun _ hk => ⟨hk.1.1.1.1.1.1.2, ⟨hk.1.1.1.1.1.2, ⟨hk.1.1.1.1.2, hk.1.1.1.2⟩⟩⟩))⟩, ⟨bl_⟩⟩
          · rw [if_neg c26] at H
            have c26b0 : decide (0 ≤ x15_1) = false := decide_eq_false c26
            clear c26
            replace H := Option.bind_eq_some_iff.mp H
            obtain ⟨t515, A630, H⟩ := H
            (try dsimp only at H)
            have A63 := A0_ A630
            clear A630
            replace H := Option.bind_eq_some_iff.mp H
            obtain ⟨t518, A640, H⟩ := H
            (try dsimp only at H)
            have A64 := A0_ A640
            clear A640
            simp only [Option.some.injEq, Prod.mk.injEq] at H
            obtain ⟨rfl, rfl, rfl⟩ := H
            obtain ⟨Ao65, co65, eo65⟩ := Kd.R_slice HO_13.out
            subst eo65
            go_wp2_with (first | ((with_reducible refine gate_callee (f := 29) rfl ?_); refine goesM_ (some 106) Try.func29 #[.slice Ao65 x13_1.length co65] rfl ?_; (with_reducible refine (astrolaberef01_Trim.calls k1 _ _ x13_1 t515 _ ?side1 ?side2 A63.out).mono ?_); (case side1 => exact mvC (Kd.R_reads' HO_13.out).2.2); (case side2 => exact (Kd.R_reads' HO_13.out).2.1); rintro e w66 ⟨v516, rfl, ho0, hb⟩; refine ⟨_, rfl, ?_⟩; have n0_ := A0_ (Kd.R_elder' (mvR HO_7.out) (Kd.R_base ho0) hb); have n1_ := A0_ (Kd.R_elder' (mvR HO_11.out) (Kd.R_base ho0) hb); have n2_ := A0_ (Kd.R_elder' (mvR HO_13.out) (Kd.R_base ho0) hb); have n3_ := A0_ (Kd.R_elder' (mvR HO_14.out) (Kd.R_base ho0) hb); have n4_ := A0_ (Kd.R_lower (Kd.R_new' (Kd.R_new' (Kd.R_new' (Kd.R_new' ho0 (Kd.R_lt (mvR HO_7.out))) (Kd.R_lt (mvR HO_11.out))) (Kd.R_lt (mvR HO_13.out))) (Kd.R_lt (mvR HO_14.out))) (below_size bl_)); have n5_ := A0_ (below_step bl_ hb); clear HO_7; clear HO_11; clear HO_13; clear HO_14; clear HB; have HO_7 := n0_; have HO_11 := n1_; have HO_13 := n2_; have HO_14 := n3_; have HO517 := n4_; have HB := n5_; clear n0_ n1_ n2_ n3_ n4_ n5_; (try clear hb); (try clear hb2); (try clear hk); (try clear hi); (try clear ho0); obtain ⟨Ao67, co67, eo67⟩ := Kd.R_slice HO_14.out; subst eo67) | ((with_reducible refine gate_callee (f := 37) rfl ?_); refine goesM_ (some 109) Try.func37 #[.slice Ao67 x14_1.length co67, .int .i64 (wrap64 ((wrap64 (32 * (t493.length : Int))) - t503))] rfl ?_; (with_reducible refine (astrolaberef01_Shr.calls k1 _ _ x14_1 (wrap64 ((wrap64 (32 * (t493.length : Int))) - t503)) t518 _ ?side1 ?side2 A64.out).mono ?_); (case side1 => exact mvC (Kd.R_reads' HO_14.out).2.2); (case side2 => exact (Kd.R_reads' HO_14.out).2.1); rintro e w68 ⟨v519, rfl, ho0, hb⟩; refine ⟨_, rfl, ?_⟩; have n0_ := A0_ (Kd.R_elder' (mvR HO_7.out) (Kd.R_base ho0) hb); have n1_ := A0_ (Kd.R_elder' (mvR HO_11.out) (Kd.R_base ho0) hb); have n2_ := A0_ (Kd.R_elder' (mvR HO_13.out) (Kd.R_base ho0) hb); have n3_ := A0_ (Kd.R_elder' (mvR HO_14.out) (Kd.R_base ho0) hb); have n4_ := A0_ (Kd.R_elder' (mvR HO517.out) (Kd.R_base ho0) hb); have n5_ := A0_ (Kd.R_lower (Kd.R_new' (Kd.R_new' (Kd.R_new' (Kd.R_new' (Kd.R_new' ho0 (Kd.R_lt (mvR HO_7.out))) (Kd.R_lt (mvR HO_11.out))) (Kd.R_lt (mvR HO_13.out))) (Kd.R_lt (mvR HO_14.out))) (Kd.R_lt (mvR HO517.out))) (below_size bl_)); have n6_ := A0_ (below_step bl_ hb); clear HO_7; clear HO_11; clear HO_13; clear HO_14; clear HO517; clear HB; have HO_7 := n0_; have HO_11 := n1_; have HO_13 := n2_; have HO_14 := n3_; have HO517 := n4_; have HO520 := n5_; have HB := n6_; clear n0_ n1_ n2_ n3_ n4_ n5_ n6_; (try clear hb); (try clear hb2); (try clear hk); (try clear hi); (try clear ho0)))
            go_ret3
            exact ⟨_, _, by first | rfl | (simp [errW_none, errW_some] <;> rfl) | (simp [*, errW_none, errW_some] <;> rfl), mvR (Kd.R_mono HO517.out (fun _ hk => hk.2)), mvR (Kd.R_mono HO520.out (fun _ hk => hk.2)), bl_⟩

/-! ### astrolaberef03_Gcd: function 16 -/
def astrolaberef03_Gcd.l0 : Nat → List Int → List Int → Option (List Int)
  | 0, _, _ => none
  | k + 1, x5, x6 => if (x6.length : Int) > 0 then ((astrolaberef03_DivMod.f k x5 x6).bind fun bt559 => (astrolaberef03_Gcd.l0 k x6 bt559.2.1)) else (some x5)
def astrolaberef03_Gcd.f (k : Nat) (l0 : List Int) (l1 : List Int) : Option (List Int) := (astrolaberef01_Trim.f k l0).bind fun t553 => ((astrolaberef01_Trim.f k l1).bind fun t556 => (astrolaberef03_Gcd.l0 k t553 t556))
theorem astrolaberef03_Gcd.mono_l : ∀ k, (∀ y0 y1, LeO (astrolaberef03_Gcd.l0 k y0 y1) (astrolaberef03_Gcd.l0 (k + 1) y0 y1))
  | 0 => fun _ _ r h => by simp [astrolaberef03_Gcd.l0] at h
  | k + 1 => by
    have ih0 := astrolaberef03_Gcd.mono_l k
    · intro y0 y1
      unfold astrolaberef03_Gcd.l0
      repeat' first
      | (with_reducible exact ih0 _ _)
      | (with_reducible exact astrolaberef01_Trim.mono _ _)
      | (with_reducible exact astrolaberef03_DivMod.mono _ _ _)
      | (with_reducible exact LeO.refl _)
      | (with_reducible exact LeO.none _)
      | (with_reducible refine LeO.ite ?_ ?_)
      | (with_reducible refine LeO.bind ?_ (fun _ => ?_))
      | exact ih0 _ _
      | exact astrolaberef01_Trim.mono _ _
      | exact astrolaberef03_DivMod.mono _ _ _
      | exact LeO.none _
      | refine LeO.ite ?_ ?_
      | refine LeO.bind ?_ (fun _ => ?_)
theorem astrolaberef03_Gcd.mono : ∀ a0 a1 k, LeO (astrolaberef03_Gcd.f k a0 a1) (astrolaberef03_Gcd.f (k + 1) a0 a1) := by
  intro a0 a1 k
  have ih0 := astrolaberef03_Gcd.mono_l k
  unfold astrolaberef03_Gcd.f
  repeat' first
      | (with_reducible exact ih0 _ _)
      | (with_reducible exact astrolaberef01_Trim.mono _ _)
      | (with_reducible exact astrolaberef03_DivMod.mono _ _ _)
      | (with_reducible exact LeO.refl _)
      | (with_reducible exact LeO.none _)
      | (with_reducible refine LeO.ite ?_ ?_)
      | (with_reducible refine LeO.bind ?_ (fun _ => ?_))
      | exact ih0 _ _
      | exact astrolaberef01_Trim.mono _ _
      | exact astrolaberef03_DivMod.mono _ _ _
      | exact LeO.none _
      | refine LeO.ite ?_ ?_
      | refine LeO.bind ?_ (fun _ => ?_)
set_option maxHeartbeats 8000000 in
set_option maxRecDepth 100000 in
theorem astrolaberef03_Gcd.calls (k : Nat) (A0 : Option Addr) (c0 : Nat) (l0 : List Int) (A1 : Option Addr) (c1 : Nat) (l1 : List Int) (r : List Int) (w : World) (hr0 : Kd.C (Kd.int .u32) w A0 l0.length l0) (hc0 : l0.length ≤ c0) (hr1 : Kd.C (Kd.int .u32) w A1 l1.length l1) (hc1 : l1.length ≤ c1) (h : astrolaberef03_Gcd.f k l0 l1 = some r) :
    Calls Try.prog 16 #[.slice A0 l0.length c0, .slice A1 l1.length c1] w fun e w' => ∃ v0_ : Value, e = .returned (v0_) ∧ Kd.R (Kd.int .u32) 37 w' w.heap.size (fun _ => True) v0_ r ∧ Below w.heap.size w w' := by
  have HR0 := A0_ hr0
  have HC0 := A0_ hc0
  clear hr0 hc0
  have HR1 := A0_ hr1
  have HC1 := A0_ hc1
  clear hr1 hc1
  have HB := A0_ (Below.refl w.heap.size w)
  have H : ((astrolaberef01_Trim.f k l0).bind fun t553 => ((astrolaberef01_Trim.f k l1).bind fun t556 => (astrolaberef03_Gcd.l0 k t553 t556))) = some r := h
  clear h
  replace H := Option.bind_eq_some_iff.mp H
  obtain ⟨t553, A30, H⟩ := H
  (try dsimp only at H)
  have A3 := A0_ A30
  clear A30
  replace H := Option.bind_eq_some_iff.mp H
  obtain ⟨t556, A40, H⟩ := H
  (try dsimp only at H)
  have A4 := A0_ A40
  clear A40
  have H' := A0_ H
  clear H
  go_enter Try.func16, Try.ntmps16
  go_wp2_with (first | ((with_reducible refine gate_callee (f := 29) rfl ?_); refine goesM_ (some 11) Try.func29 #[.slice A0 l0.length c0] rfl ?_; (with_reducible refine (astrolaberef01_Trim.calls k _ _ l0 t553 _ ?side1 ?side2 A3.out).mono ?_); (case side1 => exact mvC HR0.out); (case side2 => exact HC0.out); rintro e w5 ⟨v554, rfl, ho0, hb⟩; refine ⟨_, rfl, ?_⟩; have n0_ := A0_ (Kd.R_lower ho0 (below_size bl_)); have n1_ := A0_ (below_step bl_ hb); clear HB; have HO555 := n0_; have HB := n1_; clear n0_ n1_; (try clear hb); (try clear hb2); (try clear hk); (try clear hi); (try clear ho0)) | ((with_reducible refine gate_callee (f := 29) rfl ?_); refine goesM_ (some 13) Try.func29 #[.slice A1 l1.length c1] rfl ?_; (with_reducible refine (astrolaberef01_Trim.calls k _ _ l1 t556 _ ?side1 ?side2 A4.out).mono ?_); (case side1 => exact mvC (Kd.C_below HR1.out HB.out)); (case side2 => exact HC1.out); rintro e w6 ⟨v557, rfl, ho0, hb⟩; refine ⟨_, rfl, ?_⟩; have n0_ := A0_ (Kd.R_elder' (mvR HO555.out) (Kd.R_base ho0) hb); have n1_ := A0_ (Kd.R_lower (Kd.R_new' ho0 (Kd.R_lt (mvR HO555.out))) (below_size bl_)); have n2_ := A0_ (below_step bl_ hb); clear HO555; clear HB; have HO555 := n0_; have HO558 := n1_; have HB := n2_; clear n0_ n1_ n2_; (try clear hb); (try clear hb2); (try clear hk); (try clear hi); (try clear ho0)))
  go_loopg [5, 6] k (fun kq v5 v6 w' => ∃ (x5_1 : List Int) (x6_1 : List Int), Aside0 (astrolaberef03_Gcd.l0 kq x5_1 x6_1 = some r) ∧ Aside0 (kq ≤ k) ∧ Aside0 (Kd.R (Kd.int .u32) 37 w' w.heap.size (fun k_ => some k_ ≠ (v6 : Value).ownBlock) v5 x5_1) ∧ Aside0 (Kd.R (Kd.int .u32) 37 w' w.heap.size (fun k_ => some k_ ≠ (v5 : Value).ownBlock) v6 x6_1) ∧ Aside0 (Below w.heap.size w w'))
  case atStart => exact ⟨(t553), (t556), H', ⟨Nat.le_refl _⟩, ⟨mvR (Kd.R_mono HO555.out (fun _ hk => hk.2))⟩, ⟨mvR (Kd.R_mono HO558.out (fun _ hk => hk.2))⟩, ⟨bl_⟩⟩
  case round =>
    clear H'
    (try clear c1); (try clear c2); (try clear p2)
    obtain ⟨x5_1, x6_1, HA, HK1, HO_5, HO_6, HB⟩ := hrel
    cases gk with
    | zero => exact absurd HA.out (by simp [astrolaberef03_Gcd.l0])
    | succ k1 =>
      have H := HA.out
      clear HA
      simp only [astrolaberef03_Gcd.l0] at H
      by_cases c7 : (x6_1.length : Int) > 0
      · rw [if_pos c7] at H
        have c7b0 : decide (0 < (x6_1.length : Int)) = true := decide_eq_true c7
        have c7b1 : decide (0 < x6_1.length) = true := decide_eq_true (by omega)
        clear c7
        replace H := Option.bind_eq_some_iff.mp H
        obtain ⟨⟨t559, t560, t561⟩, A80, H⟩ := H
        (try dsimp only at H)
        have A8 := A0_ A80
        clear A80
        have H' := A0_ H
        clear H
        obtain ⟨Ao9, co9, eo9⟩ := Kd.R_slice HO_6.out
        subst eo9
        obtain ⟨Ao10, co10, eo10⟩ := Kd.R_slice HO_5.out
        subst eo10
        go_wp2_with (first | ((with_reducible refine gate_callee (f := 13) rfl ?_); refine goesM_ (some 20) Try.func13 #[.slice Ao10 x5_1.length co10, .slice Ao9 x6_1.length co9] rfl ?_; (with_reducible refine (astrolaberef03_DivMod.calls k1 _ _ x5_1 _ _ x6_1 t559 t560 t561 _ ?side1 ?side2 ?side3 ?side4 A8.out).mono ?_); (case side1 => exact mvC (Kd.R_reads' HO_5.out).2.2); (case side2 => exact (Kd.R_reads' HO_5.out).2.1); (case side3 => exact mvC (Kd.R_reads' HO_6.out).2.2); (case side4 => exact (Kd.R_reads' HO_6.out).2.1); rintro e w11 ⟨v562, v564, rfl, ho0, ho1, hb⟩; refine ⟨_, rfl, ?_⟩; have n0_ := A0_ (Kd.R_mono (Kd.R_told (Kd.R_told (Kd.R_old (mvR HO_5.out) hb) (Kd.R_base ho0)) (Kd.R_base ho1)) (fun _ h_ => h_.1)); have n1_ := A0_ (Kd.R_mono (Kd.R_told (Kd.R_told (Kd.R_old (mvR HO_6.out) hb) (Kd.R_base ho0)) (Kd.R_base ho1)) (fun _ h_ => h_.1)); have n2_ := A0_ (Kd.R_lower (Kd.R_new' (Kd.R_new' ho0 (Kd.R_lt (mvR HO_5.out))) (Kd.R_lt (mvR HO_6.out))) (below_size bl_)); have n3_ := A0_ (Kd.R_lower (Kd.R_new' (Kd.R_new' ho1 (Kd.R_lt (mvR HO_5.out))) (Kd.R_lt (mvR HO_6.out))) (below_size bl_)); have n4_ := A0_ (below_step bl_ hb); clear HO_5; clear HO_6; clear HB; have HO_5 := n0_; have HO_6 := n1_; have HO563 := n2_; have HO565 := n3_; have HB := n4_; clear n0_ n1_ n2_ n3_ n4_; (try clear hb); (try clear hb2); (try clear hk); (try clear hi); (try clear ho0); (try clear ho1)))
        go_roundg k1
        case measure => have := HK1.out; omega
        case rel => exact ⟨(x6_1), (t560), H', ⟨by have := HK1.out; omega⟩, ⟨mvR (Kd.R_mono HO_6.out (fun _ hk => hk.2))⟩, ⟨mvR (Kd.R_mono HO565.out (fun _ hk => hk.2))⟩, ⟨bl_⟩⟩
      · rw [if_neg c7] at H
        have c7b0 : decide (0 < (x6_1.length : Int)) = false := decide_eq_false c7
        have c7b1 : decide (0 < x6_1.length) = false := decide_eq_false (by omega)
        clear c7
        obtain rfl := Option.some.inj H
        obtain ⟨Ao12, co12, eo12⟩ := Kd.R_slice HO_6.out
        subst eo12
        go_wp2
        go_ret
        exact ⟨_, by first | rfl | (simp [errW_none, errW_some] <;> rfl) | (simp [*, errW_none, errW_some] <;> rfl), mvR (Kd.R_mono HO_5.out (fun _ hk => trivial)), bl_⟩

end Go.Proofs.Ytohkjfdcmiiehaa.P
