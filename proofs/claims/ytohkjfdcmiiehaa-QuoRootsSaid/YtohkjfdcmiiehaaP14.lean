/- What the Go functions of these names come to, as plain Lean functions, and the walks that show it. Written for this claim by a turned copy of the print program; Lean checks it. -/
import Derived.Test.YtohkjfdcmiiehaaP0
import Derived.Test.YtohkjfdcmiiehaaP5
import Derived.Test.YtohkjfdcmiiehaaP6
import Derived.Test.YtohkjfdcmiiehaaP7
namespace Go.Proofs.Ytohkjfdcmiiehaa.P
open Go.RowKit Go.Proofs.YtohkjfdcmiiehaaW.PrintWords Go.Proofs.YtohkjfdcmiiehaaW.PrintLast Go.Proofs.YtohkjfdcmiiehaaW.PrintMore
attribute [local go_sem] max2_int min2_int max_two min_two max_three min_three max_four min_four   -- for this text's walks alone
set_option linter.unusedVariables false
set_option linter.unusedSimpArgs false

/-! ### astrolaberef03_Sqrt: function 18 -/
def astrolaberef03_Sqrt.l0 : Nat → List Int → List Int → Int → Option (List Int × List Int)
  | 0, _, _, _ => none
  | k + 1, x4, x5, x6 => if x6 ≥ 0 then ((astrolaberef01_Shl.f k x4 1).bind fun bt608 => ((astrolaberef01_Shl.f k (([1] : List Int)) x6).bind fun bt615 => ((astrolaberef01_Add.f k bt608.1 bt615.1).bind fun t619 => ((astrolaberef01_Shl.f k t619 x6).bind fun bt622 => ((astrolaberef01_Sub.f k x5 bt622.1).bind fun bt626 => (if bt626.2 = true then ((astrolaberef01_Add.f k x4 bt615.1).bind fun t630 => (astrolaberef03_Sqrt.l0 k t630 bt626.1 (wrap64 (x6 - 1)))) else (astrolaberef03_Sqrt.l0 k x4 x5 (wrap64 (x6 - 1))))))))) else (some (x4, x5))
def astrolaberef03_Sqrt.f (k : Nat) (l0 : List Int) : Option (List Int × List Int) := (astrolaberef01_Trim.f k l0).bind fun t604 => ((astrolaberef01_Bits.f k l0).bind fun t607 => (astrolaberef03_Sqrt.l0 k ([] : List Int) t604 (wrap64 (Int.tdiv (wrap64 (t607 - 1)) 2))))
theorem astrolaberef03_Sqrt.mono_l : ∀ k, (∀ y0 y1 y2, LeO (astrolaberef03_Sqrt.l0 k y0 y1 y2) (astrolaberef03_Sqrt.l0 (k + 1) y0 y1 y2))
  | 0 => fun _ _ _ r h => by simp [astrolaberef03_Sqrt.l0] at h
  | k + 1 => by
    have ih0 := astrolaberef03_Sqrt.mono_l k
    · intro y0 y1 y2
      unfold astrolaberef03_Sqrt.l0
      repeat' first
      | (with_reducible exact ih0 _ _ _)
      | (with_reducible exact astrolaberef01_Add.mono _ _ _)
      | (with_reducible exact astrolaberef01_Bits.mono _ _)
      | (with_reducible exact astrolaberef01_Shl.mono _ _ _)
      | (with_reducible exact astrolaberef01_Sub.mono _ _ _)
      | (with_reducible exact astrolaberef01_Trim.mono _ _)
      | (with_reducible exact LeO.refl _)
      | (with_reducible exact LeO.none _)
      | (with_reducible refine LeO.ite ?_ ?_)
      | (with_reducible refine LeO.bind ?_ (fun _ => ?_))
      | exact ih0 _ _ _
      | exact astrolaberef01_Add.mono _ _ _
      | exact astrolaberef01_Bits.mono _ _
      | exact astrolaberef01_Shl.mono _ _ _
      | exact astrolaberef01_Sub.mono _ _ _
      | exact astrolaberef01_Trim.mono _ _
      | exact LeO.none _
      | refine LeO.ite ?_ ?_
      | refine LeO.bind ?_ (fun _ => ?_)
theorem astrolaberef03_Sqrt.mono : ∀ a0 k, LeO (astrolaberef03_Sqrt.f k a0) (astrolaberef03_Sqrt.f (k + 1) a0) := by
  intro a0 k
  have ih0 := astrolaberef03_Sqrt.mono_l k
  unfold astrolaberef03_Sqrt.f
  repeat' first
      | (with_reducible exact ih0 _ _ _)
      | (with_reducible exact astrolaberef01_Add.mono _ _ _)
      | (with_reducible exact astrolaberef01_Bits.mono _ _)
      | (with_reducible exact astrolaberef01_Shl.mono _ _ _)
      | (with_reducible exact astrolaberef01_Sub.mono _ _ _)
      | (with_reducible exact astrolaberef01_Trim.mono _ _)
      | (with_reducible exact LeO.refl _)
      | (with_reducible exact LeO.none _)
      | (with_reducible refine LeO.ite ?_ ?_)
      | (with_reducible refine LeO.bind ?_ (fun _ => ?_))
      | exact ih0 _ _ _
      | exact astrolaberef01_Add.mono _ _ _
      | exact astrolaberef01_Bits.mono _ _
      | exact astrolaberef01_Shl.mono _ _ _
      | exact astrolaberef01_Sub.mono _ _ _
      | exact astrolaberef01_Trim.mono _ _
      | exact LeO.none _
      | refine LeO.ite ?_ ?_
      | refine LeO.bind ?_ (fun _ => ?_)
set_option maxHeartbeats 8000000 in
set_option maxRecDepth 100000 in
theorem astrolaberef03_Sqrt.calls (k : Nat) (A0 : Option Addr) (c0 : Nat) (l0 : List Int) (r1 : List Int) (r2 : List Int) (w : World) (hr0 : Kd.C (Kd.int .u32) w A0 l0.length l0) (hc0 : l0.length ≤ c0) (h : astrolaberef03_Sqrt.f k l0 = some (r1, r2)) :
    Calls Try.prog 18 #[.slice A0 l0.length c0] w fun e w' => ∃ v0_ v1_ : Value, e = .returned (.tuple #[v0_, v1_]) ∧ Kd.R (Kd.int .u32) 37 w' w.heap.size (fun k_ => some k_ ≠ (v1_ : Value).ownBlock) v0_ r1 ∧ Kd.R (Kd.int .u32) 37 w' w.heap.size (fun k_ => some k_ ≠ (v0_ : Value).ownBlock) v1_ r2 ∧ Below w.heap.size w w' := by
  have HR0 := A0_ hr0
  have HC0 := A0_ hc0
  clear hr0 hc0
  have HB := A0_ (Below.refl w.heap.size w)
  have H : ((astrolaberef01_Trim.f k l0).bind fun t604 => ((astrolaberef01_Bits.f k l0).bind fun t607 => (astrolaberef03_Sqrt.l0 k ([] : List Int) t604 (wrap64 (Int.tdiv (wrap64 (t607 - 1)) 2))))) = some (r1, r2) := h
  clear h
  replace H := Option.bind_eq_some_iff.mp H
  obtain ⟨t604, A20, H⟩ := H
  replace H : ((astrolaberef01_Bits.f k l0).bind fun t607 => (astrolaberef03_Sqrt.l0 k ([] : List Int) t604 (wrap64 (Int.tdiv (wrap64 (t607 - 1)) 2)))) = some (r1, r2) := H
  have A2 := A0_ A20
  clear A20
  replace H := Option.bind_eq_some_iff.mp H
  obtain ⟨t607, A30, H⟩ := H
  replace H : (astrolaberef03_Sqrt.l0 k ([] : List Int) t604 (wrap64 (Int.tdiv (wrap64 (t607 - 1)) 2))) = some (r1, r2) := H
  have A3 := A0_ A30
  clear A30
  have H' := A0_ H
  clear H
  go_enter Try.func18, Try.ntmps18
  go_wp2_with (first | ((with_reducible refine gate_callee (f := 29) rfl ?_); refine goesM_ (some 16) Try.func29 #[.slice A0 l0.length c0] rfl ?_; (with_reducible refine (astrolaberef01_Trim.calls k _ _ l0 t604 _ ?side1 ?side2 A2.out).mono ?_); (case side1 => exact mvC HR0.out); (case side2 => exact HC0.out); rintro e w4 ⟨v605, rfl, ho0, hb⟩; refine ⟨_, rfl, ?_⟩; have n0_ := A0_ (Kd.R_lower ho0 (below_size bl_)); have n1_ := A0_ (below_step bl_ hb); clear HB; have HO606 := n0_; have HB := n1_; clear n0_ n1_; (try clear hb); (try clear hb2); (try clear hk); (try clear hi); (try clear ho0)) | ((with_reducible refine gate_callee (f := 31) rfl ?_); refine goesM_ (some 18) Try.func31 #[.slice A0 l0.length c0] rfl ?_; (with_reducible refine (astrolaberef01_Bits.calls k _ _ l0 t607 _ ?side1 ?side2 A3.out).mono ?_); (case side1 => exact mvC (Kd.C_below HR0.out HB.out)); (case side2 => exact HC0.out); rintro e w5 ⟨rfl, hb⟩; refine ⟨_, rfl, ?_⟩; have n0_ := A0_ (Kd.R_below (mvR HO606.out) hb); have n1_ := A0_ (below_step bl_ hb); clear HO606; clear HB; have HO606 := n0_; have HB := n1_; clear n0_ n1_; (try clear hb); (try clear hb2); (try clear hk); (try clear hi)))
  go_loopg [4, 5, 6] k (fun kq v4 v5 v6 w' => ∃ (x4_1 : List Int) (x5_1 : List Int) (x6_1 : Int), v6 = .int .i64 x6_1 ∧ Aside0 (astrolaberef03_Sqrt.l0 kq x4_1 x5_1 x6_1 = some (r1, r2)) ∧ Aside0 (kq ≤ k) ∧ Aside0 (Kd.R (Kd.int .u32) 37 w' w.heap.size (fun k_ => some k_ ≠ (v5 : Value).ownBlock) v4 x4_1) ∧ Aside0 (Kd.R (Kd.int .u32) 37 w' w.heap.size (fun k_ => some k_ ≠ (v4 : Value).ownBlock) v5 x5_1) ∧ Aside0 (Below w.heap.size w w'))
  case atStart => exact ⟨(([] : List Int)), (t604), (wrap64 (Int.tdiv (wrap64 (t607 - 1)) 2)), rs_, H', ⟨Nat.le_refl _⟩, ⟨by first | exact Kd.R_nil _ _ _ _ _ | exact Kd.N_nil _ _ _ _ _ | exact Kd.V_nil _ _ _ _ _ | exact Kd.Q_nil _ _ _ _ _ | exact Kd.S_nil _ _ _ _ _⟩, ⟨mvR (Kd.R_mono HO606.out (fun _ hk => (by simp [Value.ownBlock])))⟩, ⟨bl_⟩⟩
  case round =>
    clear H'
    (try clear c1); (try clear c2); (try clear p2); (try clear c3)
    obtain ⟨x4_1, x5_1, x6_1, rfl, HA, HK1, HO_4, HO_5, HB⟩ := hrel
    cases gk with
    | zero => exact absurd HA.out (by simp [astrolaberef03_Sqrt.l0])
    | succ k1 =>
      have H := HA.out
      clear HA
      simp only [astrolaberef03_Sqrt.l0] at H
      by_cases c6 : x6_1 ≥ 0
      · rw [if_pos c6] at H
        have c6b0 : decide (0 ≤ x6_1) = true := decide_eq_true c6
        clear c6
        replace H := Option.bind_eq_some_iff.mp H
        obtain ⟨⟨t608, t609⟩, A70, H⟩ := H
        replace H : ((astrolaberef01_Shl.f k1 (([1] : List Int)) x6_1).bind fun bt615 => ((astrolaberef01_Add.f k1 t608 bt615.1).bind fun t619 => ((astrolaberef01_Shl.f k1 t619 x6_1).bind fun bt622 => ((astrolaberef01_Sub.f k1 x5_1 bt622.1).bind fun bt626 => (if bt626.2 = true then ((astrolaberef01_Add.f k1 x4_1 bt615.1).bind fun t630 => (astrolaberef03_Sqrt.l0 k1 t630 bt626.1 (wrap64 (x6_1 - 1)))) else (astrolaberef03_Sqrt.l0 k1 x4_1 x5_1 (wrap64 (x6_1 - 1)))))))) = some (r1, r2) := H
        have A7 := A0_ A70
        clear A70
        obtain ⟨y612, hy612⟩ : ∃ y_ : List Int, y_ = (([1] : List Int)) := ⟨_, rfl⟩
        replace H : ((astrolaberef01_Shl.f k1 y612 x6_1).bind fun bt615 => ((astrolaberef01_Add.f k1 t608 bt615.1).bind fun t619 => ((astrolaberef01_Shl.f k1 t619 x6_1).bind fun bt622 => ((astrolaberef01_Sub.f k1 x5_1 bt622.1).bind fun bt626 => (if bt626.2 = true then ((astrolaberef01_Add.f k1 x4_1 bt615.1).bind fun t630 => (astrolaberef03_Sqrt.l0 k1 t630 bt626.1 (wrap64 (x6_1 - 1)))) else (astrolaberef03_Sqrt.l0 k1 x4_1 x5_1 (wrap64 (x6_1 - 1)))))))) = some (r1, r2) := by first | (rw [hy612]; with_reducible exact H) | (rw [hy612]; exact H) | exact H
        have Ny612 := A0_ hy612
        clear hy612
        replace H := Option.bind_eq_some_iff.mp H
        obtain ⟨⟨t615, t616⟩, A80, H⟩ := H
        replace H : ((astrolaberef01_Add.f k1 t608 t615).bind fun t619 => ((astrolaberef01_Shl.f k1 t619 x6_1).bind fun bt622 => ((astrolaberef01_Sub.f k1 x5_1 bt622.1).bind fun bt626 => (if bt626.2 = true then ((astrolaberef01_Add.f k1 x4_1 t615).bind fun t630 => (astrolaberef03_Sqrt.l0 k1 t630 bt626.1 (wrap64 (x6_1 - 1)))) else (astrolaberef03_Sqrt.l0 k1 x4_1 x5_1 (wrap64 (x6_1 - 1))))))) = some (r1, r2) := H
        have A8 := A0_ A80
        clear A80
        replace H := Option.bind_eq_some_iff.mp H
        obtain ⟨t619, A90, H⟩ := H
        replace H : ((astrolaberef01_Shl.f k1 t619 x6_1).bind fun bt622 => ((astrolaberef01_Sub.f k1 x5_1 bt622.1).bind fun bt626 => (if bt626.2 = true then ((astrolaberef01_Add.f k1 x4_1 t615).bind fun t630 => (astrolaberef03_Sqrt.l0 k1 t630 bt626.1 (wrap64 (x6_1 - 1)))) else (astrolaberef03_Sqrt.l0 k1 x4_1 x5_1 (wrap64 (x6_1 - 1)))))) = some (r1, r2) := H
        have A9 := A0_ A90
        clear A90
        replace H := Option.bind_eq_some_iff.mp H
        obtain ⟨⟨t622, t623⟩, A100, H⟩ := H
        replace H : ((astrolaberef01_Sub.f k1 x5_1 t622).bind fun bt626 => (if bt626.2 = true then ((astrolaberef01_Add.f k1 x4_1 t615).bind fun t630 => (astrolaberef03_Sqrt.l0 k1 t630 bt626.1 (wrap64 (x6_1 - 1)))) else (astrolaberef03_Sqrt.l0 k1 x4_1 x5_1 (wrap64 (x6_1 - 1))))) = some (r1, r2) := H
        have A10 := A0_ A100
        clear A100
        replace H := Option.bind_eq_some_iff.mp H
        obtain ⟨⟨t626, t627⟩, A110, H⟩ := H
        replace H : (if t627 = true then ((astrolaberef01_Add.f k1 x4_1 t615).bind fun t630 => (astrolaberef03_Sqrt.l0 k1 t630 t626 (wrap64 (x6_1 - 1)))) else (astrolaberef03_Sqrt.l0 k1 x4_1 x5_1 (wrap64 (x6_1 - 1)))) = some (r1, r2) := H
        have A11 := A0_ A110
        clear A110
        by_cases c12 : t627 = true
        · subst c12
          have H1 : ((astrolaberef01_Add.f k1 x4_1 t615).bind fun t630 => (astrolaberef03_Sqrt.l0 k1 t630 t626 (wrap64 (x6_1 - 1)))) = some (r1, r2) := by rw [if_pos rfl] at H; exact H
          clear H
          have H := H1
          clear H1
          replace H := Option.bind_eq_some_iff.mp H
          obtain ⟨t630, A130, H⟩ := H
          replace H : (astrolaberef03_Sqrt.l0 k1 t630 t626 (wrap64 (x6_1 - 1))) = some (r1, r2) := H
          have A13 := A0_ A130
          clear A130
          have H' := A0_ H
          clear H
          obtain ⟨Ao14, co14, eo14⟩ := Kd.R_slice HO_4.out
          subst eo14
          go_wp2_with (first | ((with_reducible refine gate_callee (f := 32) rfl ?_); refine goesM_ (some 27) Try.func32 #[.slice Ao14 x4_1.length co14, .int .i64 1] rfl ?_; (with_reducible refine (astrolaberef01_Shl.calls k1 _ _ x4_1 1 t608 t609 _ ?side1 ?side2 A7.out).mono ?_); (case side1 => exact mvC (Kd.R_reads' HO_4.out).2.2); (case side2 => exact (Kd.R_reads' HO_4.out).2.1); rintro e w15 ⟨v610, rfl, ho0, hb⟩; refine ⟨_, rfl, ?_⟩; have n0_ := A0_ (Kd.R_elder' (mvR HO_4.out) (Kd.R_base ho0) hb); have n1_ := A0_ (Kd.R_elder' (mvR HO_5.out) (Kd.R_base ho0) hb); have n2_ := A0_ (Kd.R_lower (Kd.R_new' (Kd.R_new' ho0 (Kd.R_lt (mvR HO_4.out))) (Kd.R_lt (mvR HO_5.out))) (below_size bl_)); have n3_ := A0_ (below_step bl_ hb); clear HO_4; clear HO_5; clear HB; have HO_4 := n0_; have HO_5 := n1_; have HO611 := n2_; have HB := n3_; clear n0_ n1_ n2_ n3_; (try clear hb); (try clear hb2); (try clear hk); (try clear hi); (try clear ho0)) | ((with_reducible refine gate_dst (N := 31) rfl ?_); refine Kd.R_lit (Kd.int .u32) _ 37 ?hg (N := 31) ?hd (xs := ([1] : List Int)) (inner := [.int .u32 1]) (ok := fun _ => True) (okp := fun _ => True) ?hr ?hp (fun _ hk => hk) trivial (Below.refl _ _) (Nat.le_refl _) (by simp) ?_; (case hd => rfl); (case hg => rfl); (case hr => first | (go_simp; done) | (go_simp; rfl)); (case hp => exact (Reps.one (show Kd.M (Kd.int .u32) _ _ _ 1 [.int .u32 1] from rfl) (Reps.none _ _))); intro v613 w16 ho17 hb hg_ hnew_; clear hg_ hnew_; (first | rw [← Ny612.out] at ho17 | (simp only [Int.reduceToNat] at ho17; rw [← Ny612.out] at ho17)); have n0_ := A0_ (Kd.R_elder' (mvR HO_4.out) (Kd.R_base ho17) hb); have n1_ := A0_ (Kd.R_elder' (mvR HO_5.out) (Kd.R_base ho17) hb); have n2_ := A0_ (Kd.R_elder' (mvR HO611.out) (Kd.R_base ho17) hb); have n3_ := A0_ (Kd.R_lower (Kd.R_new' (Kd.R_new' (Kd.R_new' ho17 (Kd.R_lt (mvR HO_4.out))) (Kd.R_lt (mvR HO_5.out))) (Kd.R_lt (mvR HO611.out))) (below_size bl_)); have n4_ := A0_ (below_step bl_ hb); clear HO_4; clear HO_5; clear HO611; clear HB; have HO_4 := n0_; have HO_5 := n1_; have HO611 := n2_; have HO614 := n3_; have HB := n4_; clear n0_ n1_ n2_ n3_ n4_; clear hb ho17; obtain ⟨Ao18, co18, eo18⟩ := Kd.R_slice HO614.out; subst eo18) | ((with_reducible refine gate_callee (f := 32) rfl ?_); refine goesM_ (some 33) Try.func32 #[.slice Ao18 y612.length co18, .int .i64 x6_1] rfl ?_; (with_reducible refine (astrolaberef01_Shl.calls k1 _ _ y612 x6_1 t615 t616 _ ?side1 ?side2 A8.out).mono ?_); (case side1 => exact mvC (Kd.R_reads' HO614.out).2.2); (case side2 => exact (Kd.R_reads' HO614.out).2.1); rintro e w19 ⟨v617, rfl, ho0, hb⟩; refine ⟨_, rfl, ?_⟩; have n0_ := A0_ (Kd.R_elder' (mvR HO_4.out) (Kd.R_base ho0) hb); have n1_ := A0_ (Kd.R_elder' (mvR HO_5.out) (Kd.R_base ho0) hb); have n2_ := A0_ (Kd.R_elder' (mvR HO611.out) (Kd.R_base ho0) hb); have n3_ := A0_ (Kd.R_elder' (mvR HO614.out) (Kd.R_base ho0) hb); have n4_ := A0_ (Kd.R_lower (Kd.R_new' (Kd.R_new' (Kd.R_new' (Kd.R_new' ho0 (Kd.R_lt (mvR HO_4.out))) (Kd.R_lt (mvR HO_5.out))) (Kd.R_lt (mvR HO611.out))) (Kd.R_lt (mvR HO614.out))) (below_size bl_)); have n5_ := A0_ (below_step bl_ hb); clear HO_4; clear HO_5; clear HO611; clear HO614; clear HB; have HO_4 := n0_; have HO_5 := n1_; have HO611 := n2_; have HO614 := n3_; have HO618 := n4_; have HB := n5_; clear n0_ n1_ n2_ n3_ n4_ n5_; (try clear hb); (try clear hb2); (try clear hk); (try clear hi); (try clear ho0); obtain ⟨Ao20, co20, eo20⟩ := Kd.R_slice HO611.out; subst eo20; obtain ⟨Ao21, co21, eo21⟩ := Kd.R_slice HO618.out; subst eo21) | ((with_reducible refine gate_callee (f := 39) rfl ?_); refine goesM_ (some 39) Try.func39 #[.slice Ao20 t608.length co20, .slice Ao21 t615.length co21] rfl ?_; (with_reducible refine (astrolaberef01_Add.calls k1 _ _ t608 _ _ t615 t619 _ ?side1 ?side2 ?side3 ?side4 A9.out).mono ?_); (case side1 => exact mvC (Kd.R_reads' HO611.out).2.2); (case side2 => exact (Kd.R_reads' HO611.out).2.1); (case side3 => exact mvC (Kd.R_reads' HO618.out).2.2); (case side4 => exact (Kd.R_reads' HO618.out).2.1); rintro e w22 ⟨v620, rfl, ho0, hb⟩; refine ⟨_, rfl, ?_⟩; have n0_ := A0_ (Kd.R_elder' (mvR HO_4.out) (Kd.R_base ho0) hb); have n1_ := A0_ (Kd.R_elder' (mvR HO_5.out) (Kd.R_base ho0) hb); have n2_ := A0_ (Kd.R_elder' (mvR HO611.out) (Kd.R_base ho0) hb); have n3_ := A0_ (Kd.R_elder' (mvR HO614.out) (Kd.R_base ho0) hb); have n4_ := A0_ (Kd.R_elder' (mvR HO618.out) (Kd.R_base ho0) hb); have n5_ := A0_ (Kd.R_lower (Kd.R_new' (Kd.R_new' (Kd.R_new' (Kd.R_new' (Kd.R_new' ho0 (Kd.R_lt (mvR HO_4.out))) (Kd.R_lt (mvR HO_5.out))) (Kd.R_lt (mvR HO611.out))) (Kd.R_lt (mvR HO614.out))) (Kd.R_lt (mvR HO618.out))) (below_size bl_)); have n6_ := A0_ (below_step bl_ hb); clear HO_4; clear HO_5; clear HO611; clear HO614; clear HO618; clear HB; have HO_4 := n0_; have HO_5 := n1_; have HO611 := n2_; have HO614 := n3_; have HO618 := n4_; have HO621 := n5_; have HB := n6_; clear n0_ n1_ n2_ n3_ n4_ n5_ n6_; (try clear hb); (try clear hb2); (try clear hk); (try clear hi); (try clear ho0); obtain ⟨Ao23, co23, eo23⟩ := Kd.R_slice HO621.out; subst eo23) | ((with_reducible refine gate_callee (f := 32) rfl ?_); refine goesM_ (some 41) Try.func32 #[.slice Ao23 t619.length co23, .int .i64 x6_1] rfl ?_; (with_reducible refine (astrolaberef01_Shl.calls k1 _ _ t619 x6_1 t622 t623 _ ?side1 ?side2 A10.out).mono ?_); (case side1 => exact mvC (Kd.R_reads' HO621.out).2.2); (case side2 => exact (Kd.R_reads' HO621.out).2.1); rintro e w24 ⟨v624, rfl, ho0, hb⟩; refine ⟨_, rfl, ?_⟩; have n0_ := A0_ (Kd.R_elder' (mvR HO_4.out) (Kd.R_base ho0) hb); have n1_ := A0_ (Kd.R_elder' (mvR HO_5.out) (Kd.R_base ho0) hb); have n2_ := A0_ (Kd.R_elder' (mvR HO611.out) (Kd.R_base ho0) hb); have n3_ := A0_ (Kd.R_elder' (mvR HO614.out) (Kd.R_base ho0) hb); have n4_ := A0_ (Kd.R_elder' (mvR HO618.out) (Kd.R_base ho0) hb); have n5_ := A0_ (Kd.R_elder' (mvR HO621.out) (Kd.R_base ho0) hb); have n6_ := A0_ (Kd.R_lower (Kd.R_new' (Kd.R_new' (Kd.R_new' (Kd.R_new' (Kd.R_new' (Kd.R_new' ho0 (Kd.R_lt (mvR HO_4.out))) (Kd.R_lt (mvR HO_5.out))) (Kd.R_lt (mvR HO611.out))) (Kd.R_lt (mvR HO614.out))) (Kd.R_lt (mvR HO618.out))) (Kd.R_lt (mvR HO621.out))) (below_size bl_)); have n7_ := A0_ (below_step bl_ hb); clear HO_4; clear HO_5; clear HO611; clear HO614; clear HO618; clear HO621; clear HB; have HO_4 := n0_; have HO_5 := n1_; have HO611 := n2_; have HO614 := n3_; have HO618 := n4_; have HO621 := n5_; have HO625 := n6_; have HB := n7_; clear n0_ n1_ n2_ n3_ n4_ n5_ n6_ n7_; (try clear hb); (try clear hb2); (try clear hk); (try clear hi); (try clear ho0); obtain ⟨Ao25, co25, eo25⟩ := Kd.R_slice HO_5.out; subst eo25; obtain ⟨Ao26, co26, eo26⟩ := Kd.R_slice HO625.out; subst eo26) | ((with_reducible refine gate_callee (f := 34) rfl ?_); refine goesM_ (some 47) Try.func34 #[.slice Ao25 x5_1.length co25, .slice Ao26 t622.length co26] rfl ?_; (with_reducible refine (astrolaberef01_Sub.calls k1 _ _ x5_1 _ _ t622 t626 true _ ?side1 ?side2 ?side3 ?side4 A11.out).mono ?_); (case side1 => exact mvC (Kd.R_reads' HO_5.out).2.2); (case side2 => exact (Kd.R_reads' HO_5.out).2.1); (case side3 => exact mvC (Kd.R_reads' HO625.out).2.2); (case side4 => exact (Kd.R_reads' HO625.out).2.1); rintro e w27 ⟨v628, rfl, ho0, hb⟩; refine ⟨_, rfl, ?_⟩; have n0_ := A0_ (Kd.R_elder' (mvR HO_4.out) (Kd.R_base ho0) hb); have n1_ := A0_ (Kd.R_elder' (mvR HO_5.out) (Kd.R_base ho0) hb); have n2_ := A0_ (Kd.R_elder' (mvR HO611.out) (Kd.R_base ho0) hb); have n3_ := A0_ (Kd.R_elder' (mvR HO614.out) (Kd.R_base ho0) hb); have n4_ := A0_ (Kd.R_elder' (mvR HO618.out) (Kd.R_base ho0) hb); have n5_ := A0_ (Kd.R_elder' (mvR HO621.out) (Kd.R_base ho0) hb); have n6_ := A0_ (Kd.R_elder' (mvR HO625.out) (Kd.R_base ho0) hb); have n7_ := A0_ (Kd.R_lower (Kd.R_new' (Kd.R_new' (Kd.R_new' (Kd.R_new' (Kd.R_new' (Kd.R_new' (Kd.R_new' ho0 (Kd.R_lt (mvR HO_4.out))) (Kd.R_lt (mvR HO_5.out))) (Kd.R_lt (mvR HO611.out))) (Kd.R_lt (mvR HO614.out))) (Kd.R_lt (mvR HO618.out))) (Kd.R_lt (mvR HO621.out))) (Kd.R_lt (mvR HO625.out))) (below_size bl_)); have n8_ := A0_ (below_step bl_ hb); clear HO_4; clear HO_5; clear HO611; clear HO614; clear HO618; clear HO621; clear HO625; clear HB; have HO_4 := n0_; have HO_5 := n1_; have HO611 := n2_; have HO614 := n3_; have HO618 := n4_; have HO621 := n5_; have HO625 := n6_; have HO629 := n7_; have HB := n8_; clear n0_ n1_ n2_ n3_ n4_ n5_ n6_ n7_ n8_; (try clear hb); (try clear hb2); (try clear hk); (try clear hi); (try clear ho0)) | ((with_reducible refine gate_callee (f := 39) rfl ?_); refine goesM_ (some 54) Try.func39 #[.slice Ao14 x4_1.length co14, .slice Ao21 t615.length co21] rfl ?_; (with_reducible refine (astrolaberef01_Add.calls k1 _ _ x4_1 _ _ t615 t630 _ ?side1 ?side2 ?side3 ?side4 A13.out).mono ?_); (case side1 => exact mvC (Kd.R_reads' HO_4.out).2.2); (case side2 => exact (Kd.R_reads' HO_4.out).2.1); (case side3 => exact mvC (Kd.R_reads' HO618.out).2.2); (case side4 => exact (Kd.R_reads' HO618.out).2.1); rintro e w28 ⟨v631, rfl, ho0, hb⟩; refine ⟨_, rfl, ?_⟩; have n0_ := A0_ (Kd.R_elder' (mvR HO_4.out) (Kd.R_base ho0) hb); have n1_ := A0_ (Kd.R_elder' (mvR HO_5.out) (Kd.R_base ho0) hb); have n2_ := A0_ (Kd.R_elder' (mvR HO611.out) (Kd.R_base ho0) hb); have n3_ := A0_ (Kd.R_elder' (mvR HO614.out) (Kd.R_base ho0) hb); have n4_ := A0_ (Kd.R_elder' (mvR HO618.out) (Kd.R_base ho0) hb); have n5_ := A0_ (Kd.R_elder' (mvR HO621.out) (Kd.R_base ho0) hb); have n6_ := A0_ (Kd.R_elder' (mvR HO625.out) (Kd.R_base ho0) hb); have n7_ := A0_ (Kd.R_elder' (mvR HO629.out) (Kd.R_base ho0) hb); have n8_ := A0_ (Kd.R_lower (Kd.R_new' (Kd.R_new' (Kd.R_new' (Kd.R_new' (Kd.R_new' (Kd.R_new' (Kd.R_new' (Kd.R_new' ho0 (Kd.R_lt (mvR HO_4.out))) (Kd.R_lt (mvR HO_5.out))) (Kd.R_lt (mvR HO611.out))) (Kd.R_lt (mvR HO614.out))) (Kd.R_lt (mvR HO618.out))) (Kd.R_lt (mvR HO621.out))) (Kd.R_lt (mvR HO625.out))) (Kd.R_lt (mvR HO629.out))) (below_size bl_)); have n9_ := A0_ (below_step bl_ hb); clear HO_4; clear HO_5; clear HO611; clear HO614; clear HO618; clear HO621; clear HO625; clear HO629; clear HB; have HO_4 := n0_; have HO_5 := n1_; have HO611 := n2_; have HO614 := n3_; have HO618 := n4_; have HO621 := n5_; have HO625 := n6_; have HO629 := n7_; have HO632 := n8_; have HB := n9_; clear n0_ n1_ n2_ n3_ n4_ n5_ n6_ n7_ n8_ n9_; (try clear hb); (try clear hb2); (try clear hk); (try clear hi); (try clear ho0)))
          go_roundg k1
          case measure => have := HK1.out; omega
          case rel => exact ⟨(t630), (t626), (wrap64 (x6_1 - 1)), rs_, H', ⟨by have := HK1.out; omega⟩, ⟨mvR (Kd.R_mono HO632.out (fun _ hk => hk.2))⟩, ⟨mvR (Kd.R_mono HO629.out (fun _ hk => hk.2))⟩, ⟨bl_⟩⟩
        · replace c12 := Bool.eq_false_iff.mpr c12
          subst c12
          have H1 : (astrolaberef03_Sqrt.l0 k1 x4_1 x5_1 (wrap64 (x6_1 - 1))) = some (r1, r2) := by rw [if_neg (show ¬ (false = true) by decide)] at H; exact H
          clear H
          have H := H1
          clear H1
          have H' := A0_ H
          clear H
          obtain ⟨Ao29, co29, eo29⟩ := Kd.R_slice HO_4.out
          subst eo29
          go_wp2_with (first | ((with_reducible refine gate_callee (f := 32) rfl ?_); refine goesM_ (some 27) Try.func32 #[.slice Ao29 x4_1.length co29, .int .i64 1] rfl ?_; (with_reducible refine (astrolaberef01_Shl.calls k1 _ _ x4_1 1 t608 t609 _ ?side1 ?side2 A7.out).mono ?_); (case side1 => exact mvC (Kd.R_reads' HO_4.out).2.2); (case side2 => exact (Kd.R_reads' HO_4.out).2.1); rintro e w30 ⟨v610, rfl, ho0, hb⟩; refine ⟨_, rfl, ?_⟩; have n0_ := A0_ (Kd.R_elder' (mvR HO_4.out) (Kd.R_base ho0) hb); have n1_ := A0_ (Kd.R_elder' (mvR HO_5.out) (Kd.R_base ho0) hb); have n2_ := A0_ (Kd.R_lower (Kd.R_new' (Kd.R_new' ho0 (Kd.R_lt (mvR HO_4.out))) (Kd.R_lt (mvR HO_5.out))) (below_size bl_)); have n3_ := A0_ (below_step bl_ hb); clear HO_4; clear HO_5; clear HB; have HO_4 := n0_; have HO_5 := n1_; have HO611 := n2_; have HB := n3_; clear n0_ n1_ n2_ n3_; (try clear hb); (try clear hb2); (try clear hk); (try clear hi); (try clear ho0)) | ((with_reducible refine gate_dst (N := 31) rfl ?_); refine Kd.R_lit (Kd.int .u32) _ 37 ?hg (N := 31) ?hd (xs := ([1] : List Int)) (inner := [.int .u32 1]) (ok := fun _ => True) (okp := fun _ => True) ?hr ?hp (fun _ hk => hk) trivial (Below.refl _ _) (Nat.le_refl _) (by simp) ?_; (case hd => rfl); (case hg => rfl); (case hr => first | (go_simp; done) | (go_simp; rfl)); (case hp => exact (Reps.one (show Kd.M (Kd.int .u32) _ _ _ 1 [.int .u32 1] from rfl) (Reps.none _ _))); intro v613 w31 ho32 hb hg_ hnew_; clear hg_ hnew_; (first | rw [← Ny612.out] at ho32 | (simp only [Int.reduceToNat] at ho32; rw [← Ny612.out] at ho32)); have n0_ := A0_ (Kd.R_elder' (mvR HO_4.out) (Kd.R_base ho32) hb); have n1_ := A0_ (Kd.R_elder' (mvR HO_5.out) (Kd.R_base ho32) hb); have n2_ := A0_ (Kd.R_elder' (mvR HO611.out) (Kd.R_base ho32) hb); have n3_ := A0_ (Kd.R_lower (Kd.R_new' (Kd.R_new' (Kd.R_new' ho32 (Kd.R_lt (mvR HO_4.out))) (Kd.R_lt (mvR HO_5.out))) (Kd.R_lt (mvR HO611.out))) (below_size bl_)); have n4_ := A0_ (below_step bl_ hb); clear HO_4; clear HO_5; clear HO611; clear HB; have HO_4 := n0_; have HO_5 := n1_; have HO611 := n2_; have HO614 := n3_; have HB := n4_; clear n0_ n1_ n2_ n3_ n4_; clear hb ho32; obtain ⟨Ao33, co33, eo33⟩ := Kd.R_slice HO614.out; subst eo33) | ((with_reducible refine gate_callee (f := 32) rfl ?_); refine goesM_ (some 33) Try.func32 #[.slice Ao33 y612.length co33, .int .i64 x6_1] rfl ?_; (with_reducible refine (astrolaberef01_Shl.calls k1 _ _ y612 x6_1 t615 t616 _ ?side1 ?side2 A8.out).mono ?_); (case side1 => exact mvC (Kd.R_reads' HO614.out).2.2); (case side2 => exact (Kd.R_reads' HO614.out).2.1); rintro e w34 ⟨v617, rfl, ho0, hb⟩; refine ⟨_, rfl, ?_⟩; have n0_ := A0_ (Kd.R_elder' (mvR HO_4.out) (Kd.R_base ho0) hb); have n1_ := A0_ (Kd.R_elder' (mvR HO_5.out) (Kd.R_base ho0) hb); have n2_ := A0_ (Kd.R_elder' (mvR HO611.out) (Kd.R_base ho0) hb); have n3_ := A0_ (Kd.R_elder' (mvR HO614.out) (Kd.R_base ho0) hb); have n4_ := A0_ (Kd.R_lower (Kd.R_new' (Kd.R_new' (Kd.R_new' (Kd.R_new' ho0 (Kd.R_lt (mvR HO_4.out))) (Kd.R_lt (mvR HO_5.out))) (Kd.R_lt (mvR HO611.out))) (Kd.R_lt (mvR HO614.out))) (below_size bl_)); have n5_ := A0_ (below_step bl_ hb); clear HO_4; clear HO_5; clear HO611; clear HO614; clear HB; have HO_4 := n0_; have HO_5 := n1_; have HO611 := n2_; have HO614 := n3_; have HO618 := n4_; have HB := n5_; clear n0_ n1_ n2_ n3_ n4_ n5_; (try clear hb); (try clear hb2); (try clear hk); (try clear hi); (try clear ho0); obtain ⟨Ao35, co35, eo35⟩ := Kd.R_slice HO611.out; subst eo35; obtain ⟨Ao36, co36, eo36⟩ := Kd.R_slice HO618.out; subst eo36) | ((with_reducible refine gate_callee (f := 39) rfl ?_); refine goesM_ (some 39) Try.func39 #[.slice Ao35 t608.length co35, .slice Ao36 t615.length co36] rfl ?_; (with_reducible refine (astrolaberef01_Add.calls k1 _ _ t608 _ _ t615 t619 _ ?side1 ?side2 ?side3 ?side4 A9.out).mono ?_); (case side1 => exact mvC (Kd.R_reads' HO611.out).2.2); (case side2 => exact (Kd.R_reads' HO611.out).2.1); (case side3 => exact mvC (Kd.R_reads' HO618.out).2.2); (case side4 => exact (Kd.R_reads' HO618.out).2.1); rintro e w37 ⟨v620, rfl, ho0, hb⟩; refine ⟨_, rfl, ?_⟩; have n0_ := A0_ (Kd.R_elder' (mvR HO_4.out) (Kd.R_base ho0) hb); have n1_ := A0_ (Kd.R_elder' (mvR HO_5.out) (Kd.R_base ho0) hb); have n2_ := A0_ (Kd.R_elder' (mvR HO611.out) (Kd.R_base ho0) hb); have n3_ := A0_ (Kd.R_elder' (mvR HO614.out) (Kd.R_base ho0) hb); have n4_ := A0_ (Kd.R_elder' (mvR HO618.out) (Kd.R_base ho0) hb); have n5_ := A0_ (Kd.R_lower (Kd.R_new' (Kd.R_new' (Kd.R_new' (Kd.R_new' (Kd.R_new' ho0 (Kd.R_lt (mvR HO_4.out))) (Kd.R_lt (mvR HO_5.out))) (Kd.R_lt (mvR HO611.out))) (Kd.R_lt (mvR HO614.out))) (Kd.R_lt (mvR HO618.out))) (below_size bl_)); have n6_ := A0_ (below_step bl_ hb); clear HO_4; clear HO_5; clear HO611; clear HO614; clear HO618; clear HB; have HO_4 := n0_; have HO_5 := n1_; have HO611 := n2_; have HO614 := n3_; have HO618 := n4_; have HO621 := n5_; have HB := n6_; clear n0_ n1_ n2_ n3_ n4_ n5_ n6_; (try clear hb); (try clear hb2); (try clear hk); (try clear hi); (try clear ho0); obtain ⟨Ao38, co38, eo38⟩ := Kd.R_slice HO621.out; subst eo38) | ((with_reducible refine gate_callee (f := 32) rfl ?_); refine goesM_ (some 41) Try.func32 #[.slice Ao38 t619.length co38, .int .i64 x6_1] rfl ?_; (with_reducible refine (astrolaberef01_Shl.calls k1 _ _ t619 x6_1 t622 t623 _ ?side1 ?side2 A10.out).mono ?_); (case side1 => exact mvC (Kd.R_reads' HO621.out).2.2); (case side2 => exact (Kd.R_reads' HO621.out).2.1); rintro e w39 ⟨v624, rfl, ho0, hb⟩; refine ⟨_, rfl, ?_⟩; have n0_ := A0_ (Kd.R_elder' (mvR HO_4.out) (Kd.R_base ho0) hb); have n1_ := A0_ (Kd.R_elder' (mvR HO_5.out) (Kd.R_base ho0) hb); have n2_ := A0_ (Kd.R_elder' (mvR HO611.out) (Kd.R_base ho0) hb); have n3_ := A0_ (Kd.R_elder' (mvR HO614.out) (Kd.R_base ho0) hb); have n4_ := A0_ (Kd.R_elder' (mvR HO618.out) (Kd.R_base ho0) hb); have n5_ := A0_ (Kd.R_elder' (mvR HO621.out) (Kd.R_base ho0) hb); have n6_ := A0_ (Kd.R_lower (Kd.R_new' (Kd.R_new' (Kd.R_new' (Kd.R_new' (Kd.R_new' (Kd.R_new' ho0 (Kd.R_lt (mvR HO_4.out))) (Kd.R_lt (mvR HO_5.out))) (Kd.R_lt (mvR HO611.out))) (Kd.R_lt (mvR HO614.out))) (Kd.R_lt (mvR HO618.out))) (Kd.R_lt (mvR HO621.out))) (below_size bl_)); have n7_ := A0_ (below_step bl_ hb); clear HO_4; clear HO_5; clear HO611; clear HO614; clear HO618; clear HO621; clear HB; have HO_4 := n0_; have HO_5 := n1_; have HO611 := n2_; have HO614 := n3_; have HO618 := n4_; have HO621 := n5_; have HO625 := n6_; have HB := n7_; clear n0_ n1_ n2_ n3_ n4_ n5_ n6_ n7_; (try clear hb); (try clear hb2); (try clear hk); (try clear hi); (try clear ho0); obtain ⟨Ao40, co40, eo40⟩ := Kd.R_slice HO_5.out; subst eo40; obtain ⟨Ao41, co41, eo41⟩ := Kd.R_slice HO625.out; subst eo41) | ((with_reducible refine gate_callee (f := 34) rfl ?_); refine goesM_ (some 47) Try.func34 #[.slice Ao40 x5_1.length co40, .slice Ao41 t622.length co41] rfl ?_; (with_reducible refine (astrolaberef01_Sub.calls k1 _ _ x5_1 _ _ t622 t626 false _ ?side1 ?side2 ?side3 ?side4 A11.out).mono ?_); (case side1 => exact mvC (Kd.R_reads' HO_5.out).2.2); (case side2 => exact (Kd.R_reads' HO_5.out).2.1); (case side3 => exact mvC (Kd.R_reads' HO625.out).2.2); (case side4 => exact (Kd.R_reads' HO625.out).2.1); rintro e w42 ⟨v628, rfl, ho0, hb⟩; refine ⟨_, rfl, ?_⟩; have n0_ := A0_ (Kd.R_elder' (mvR HO_4.out) (Kd.R_base ho0) hb); have n1_ := A0_ (Kd.R_elder' (mvR HO_5.out) (Kd.R_base ho0) hb); have n2_ := A0_ (Kd.R_elder' (mvR HO611.out) (Kd.R_base ho0) hb); have n3_ := A0_ (Kd.R_elder' (mvR HO614.out) (Kd.R_base ho0) hb); have n4_ := A0_ (Kd.R_elder' (mvR HO618.out) (Kd.R_base ho0) hb); have n5_ := A0_ (Kd.R_elder' (mvR HO621.out) (Kd.R_base ho0) hb); have n6_ := A0_ (Kd.R_elder' (mvR HO625.out) (Kd.R_base ho0) hb); have n7_ := A0_ (Kd.R_lower (Kd.R_new' (Kd.R_new' (Kd.R_new' (Kd.R_new' (Kd.R_new' (Kd.R_new' (Kd.R_new' ho0 (Kd.R_lt (mvR HO_4.out))) (Kd.R_lt (mvR HO_5.out))) (Kd.R_lt (mvR HO611.out))) (Kd.R_lt (mvR HO614.out))) (Kd.R_lt (mvR HO618.out))) (Kd.R_lt (mvR HO621.out))) (Kd.R_lt (mvR HO625.out))) (below_size bl_)); have n8_ := A0_ (below_step bl_ hb); clear HO_4; clear HO_5; clear HO611; clear HO614; clear HO618; clear HO621; clear HO625; clear HB; have HO_4 := n0_; have HO_5 := n1_; have HO611 := n2_; have HO614 := n3_; have HO618 := n4_; have HO621 := n5_; have HO625 := n6_; have HO629 := n7_; have HB := n8_; clear n0_ n1_ n2_ n3_ n4_ n5_ n6_ n7_ n8_; (try clear hb); (try clear hb2); (try clear hk); (try clear hi); (try clear ho0)))
          go_roundg k1
          case measure => have := HK1.out; omega
          case rel => exact ⟨(x4_1), (x5_1), (wrap64 (x6_1 - 1)), rs_, H', ⟨by have := HK1.out; omega⟩, ⟨mvR (Kd.R_mono HO_4.out (fun _ hk => hk.1.1.1.1.1.1))⟩, ⟨mvR (Kd.R_mono HO_5.out (fun _ hk => hk.1.1.1.1.1.1))⟩, ⟨bl_⟩⟩
      · rw [if_neg c6] at H
        have c6b0 : decide (0 ≤ x6_1) = false := decide_eq_false c6
        clear c6
        simp only [Option.some.injEq, Prod.mk.injEq] at H
        obtain ⟨rfl, rfl⟩ := H
        go_wp2
        go_ret2
        exact ⟨_, _, by first | rfl | (simp [errW_none, errW_some] <;> rfl) | (simp [*, errW_none, errW_some] <;> rfl), mvR HO_4.out, mvR HO_5.out, bl_⟩

end Go.Proofs.Ytohkjfdcmiiehaa.P
