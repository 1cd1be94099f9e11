/- What the Go functions of these names come to, as plain Lean functions, and the walks that show it. Written for this claim by a turned copy of the print program; Lean checks it. -/
import Derived.Test.YtohkjfdcmiiehaaP0
import Derived.Test.YtohkjfdcmiiehaaP11
import Derived.Test.YtohkjfdcmiiehaaP14
import Derived.Test.YtohkjfdcmiiehaaP15
namespace Go.Proofs.Ytohkjfdcmiiehaa.P
open Go.RowKit Go.Proofs.YtohkjfdcmiiehaaW.PrintWords Go.Proofs.YtohkjfdcmiiehaaW.PrintLast Go.Proofs.YtohkjfdcmiiehaaW.PrintMore
attribute [local go_sem] max2_int min2_int max_two min_two max_three min_three max_four min_four   -- for this text's walks alone
set_option linter.unusedVariables false
set_option linter.unusedSimpArgs false

/-! ### astrolabelaw03_QuoRoots: function 4 -/
def astrolabelaw03_QuoRoots.f (k : Nat) (l0 : List Int) : Option (Bool) := (astrolabelaw03_examples.f k).bind fun t633 => (if t633 = true then (if 0 ≤ (mn (l0.length : Int) 30) then (if (mn (l0.length : Int) 30) ≤ (l0.length : Int) then ((quo_Sqrt.f k (l0.take ((mn (l0.length : Int) 30) : Int).toNat)).bind fun bt635 => ((astrolaberef03_Sqrt.f k (l0.take ((mn (l0.length : Int) 30) : Int).toNat)).bind fun bt641 => ((astrolabelaw03_digits.f k bt635.1 bt641.1).bind fun t647 => ((astrolabelaw03_digits.f k bt635.2 bt641.2).bind fun t648 => (if t647 = true then (some t648) else (none)))))) else (none)) else (none)) else (none))
theorem astrolabelaw03_QuoRoots.mono : ∀ a0 k, LeO (astrolabelaw03_QuoRoots.f k a0) (astrolabelaw03_QuoRoots.f (k + 1) a0) := by
  intro a0 k
  unfold astrolabelaw03_QuoRoots.f
  repeat' first
      | (with_reducible exact astrolabelaw03_digits.mono _ _ _)
      | (with_reducible exact astrolabelaw03_examples.mono _)
      | (with_reducible exact astrolaberef03_Sqrt.mono _ _)
      | (with_reducible exact quo_Sqrt.mono _ _)
      | (with_reducible exact LeO.refl _)
      | (with_reducible exact LeO.none _)
      | (with_reducible refine LeO.ite ?_ ?_)
      | (with_reducible refine LeO.bind ?_ (fun _ => ?_))
      | exact astrolabelaw03_digits.mono _ _ _
      | exact astrolabelaw03_examples.mono _
      | exact astrolaberef03_Sqrt.mono _ _
      | exact quo_Sqrt.mono _ _
      | exact LeO.none _
      | refine LeO.ite ?_ ?_
      | refine LeO.bind ?_ (fun _ => ?_)
set_option maxHeartbeats 8000000 in
set_option maxRecDepth 100000 in
theorem astrolabelaw03_QuoRoots.calls (k : Nat) (A0 : Option Addr) (c0 : Nat) (l0 : List Int) (r : Bool) (w : World) (hr0 : Kd.C (Kd.int .u32) w A0 l0.length l0) (hc0 : l0.length ≤ c0) (h : astrolabelaw03_QuoRoots.f k l0 = some r) :
    Calls Try.prog 4 #[.slice A0 l0.length c0] w fun e w' => e = .returned (.bool r) ∧ Below w.heap.size w w' := by
  have HR0 := A0_ hr0
  have HC0 := A0_ hc0
  clear hr0 hc0
  have HB := A0_ (Below.refl w.heap.size w)
  have H : ((astrolabelaw03_examples.f k).bind fun t633 => (if t633 = true then (if 0 ≤ (mn (l0.length : Int) 30) then (if (mn (l0.length : Int) 30) ≤ (l0.length : Int) then ((quo_Sqrt.f k (l0.take ((mn (l0.length : Int) 30) : Int).toNat)).bind fun bt635 => ((astrolaberef03_Sqrt.f k (l0.take ((mn (l0.length : Int) 30) : Int).toNat)).bind fun bt641 => ((astrolabelaw03_digits.f k bt635.1 bt641.1).bind fun t647 => ((astrolabelaw03_digits.f k bt635.2 bt641.2).bind fun t648 => (if t647 = true then (some t648) else (none)))))) else (none)) else (none)) else (none))) = some r := h
  clear h
  replace H := Option.bind_eq_some_iff.mp H
  obtain ⟨t633, A20, H⟩ := H
  replace H : (if t633 = true then (if 0 ≤ (mn (l0.length : Int) 30) then (if (mn (l0.length : Int) 30) ≤ (l0.length : Int) then ((quo_Sqrt.f k (l0.take ((mn (l0.length : Int) 30) : Int).toNat)).bind fun bt635 => ((astrolaberef03_Sqrt.f k (l0.take ((mn (l0.length : Int) 30) : Int).toNat)).bind fun bt641 => ((astrolabelaw03_digits.f k bt635.1 bt641.1).bind fun t647 => ((astrolabelaw03_digits.f k bt635.2 bt641.2).bind fun t648 => (if t647 = true then (some t648) else (none)))))) else (none)) else (none)) else (none)) = some r := H
  have A2 := A0_ A20
  clear A20
  by_cases c3 : t633 = true
  · subst c3
    have H1 : (if 0 ≤ (mn (l0.length : Int) 30) then (if (mn (l0.length : Int) 30) ≤ (l0.length : Int) then ((quo_Sqrt.f k (l0.take ((mn (l0.length : Int) 30) : Int).toNat)).bind fun bt635 => ((astrolaberef03_Sqrt.f k (l0.take ((mn (l0.length : Int) 30) : Int).toNat)).bind fun bt641 => ((astrolabelaw03_digits.f k bt635.1 bt641.1).bind fun t647 => ((astrolabelaw03_digits.f k bt635.2 bt641.2).bind fun t648 => (if t647 = true then (some t648) else (none)))))) else (none)) else (none)) = some r := by rw [if_pos rfl] at H; exact H
    clear H
    have H := H1
    clear H1
    obtain ⟨ji4, hji4⟩ : ∃ j_ : Int, (mn (l0.length : Int) 30) = j_ := ⟨_, rfl⟩
    replace H : (if 0 ≤ (ji4) then (if (ji4) ≤ (l0.length : Int) then ((quo_Sqrt.f k (l0.take ((ji4) : Int).toNat)).bind fun bt635 => ((astrolaberef03_Sqrt.f k (l0.take ((ji4) : Int).toNat)).bind fun bt641 => ((astrolabelaw03_digits.f k bt635.1 bt641.1).bind fun t647 => ((astrolabelaw03_digits.f k bt635.2 bt641.2).bind fun t648 => (if t647 = true then (some t648) else (none)))))) else (none)) else (none)) = some r := by first | (rw [hji4] at H; exact H) | (simp only [hji4] at H ⊢; exact H)
    (try rw [hji4] at A2)
    (try (have hji4h : ji4 ≤ 30 := by (rw [← hji4]; unfold mn; (repeat' split) <;> omega)))
    (try (have hji4g : ji4 ≤ 64 := by omega))
    (try (have hji4l : 0 ≤ ji4 := by (rw [← hji4]; unfold mn; (repeat' split) <;> omega)))
    (try (have hji4m : 0 ≤ ji4 := by omega))
    have hji4_ : (if 30 < (l0.length : Int) then 30 else (l0.length : Int)) = ji4 := hji4
    by_cases c5 : 0 ≤ (ji4)
    case neg => rw [if_neg c5] at H; exact absurd H (by simp)
    rw [if_pos c5] at H
    have c5b0 := eq_true c5
    have c5b1 : decide (0 ≤ (ji4)) = true := decide_eq_true c5
    clear c5
    by_cases c6 : (ji4) ≤ (l0.length : Int)
    case neg => rw [if_neg c6] at H; exact absurd H (by simp)
    rw [if_pos c6] at H
    have c6b0 := eq_true c6
    have c6b1 : decide ((ji4) ≤ (l0.length : Int)) = true := decide_eq_true c6
    clear c6
    replace H := Option.bind_eq_some_iff.mp H
    obtain ⟨⟨t635, t638⟩, A70, H⟩ := H
    replace H : ((astrolaberef03_Sqrt.f k (l0.take ((ji4) : Int).toNat)).bind fun bt641 => ((astrolabelaw03_digits.f k t635 bt641.1).bind fun t647 => ((astrolabelaw03_digits.f k t638 bt641.2).bind fun t648 => (if t647 = true then (some t648) else (none))))) = some r := H
    have A7 := A0_ A70
    clear A70
    replace H := Option.bind_eq_some_iff.mp H
    obtain ⟨⟨t641, t642⟩, A80, H⟩ := H
    replace H : ((astrolabelaw03_digits.f k t635 t641).bind fun t647 => ((astrolabelaw03_digits.f k t638 t642).bind fun t648 => (if t647 = true then (some t648) else (none)))) = some r := H
    have A8 := A0_ A80
    clear A80
    replace H := Option.bind_eq_some_iff.mp H
    obtain ⟨t647, A90, H⟩ := H
    replace H : ((astrolabelaw03_digits.f k t638 t642).bind fun t648 => (if t647 = true then (some t648) else (none))) = some r := H
    have A9 := A0_ A90
    clear A90
    replace H := Option.bind_eq_some_iff.mp H
    obtain ⟨t648, A100, H⟩ := H
    replace H : (if t647 = true then (some t648) else (none)) = some r := H
    have A10 := A0_ A100
    clear A100
    by_cases c11 : t647 = true
    · subst c11
      have H1 : (some t648) = some r := by rw [if_pos rfl] at H; exact H
      clear H
      have H := H1
      clear H1
      obtain rfl := Option.some.inj H
      go_enter Try.func4, Try.ntmps4
      go_wp2_with (first | ((with_reducible refine gate_callee (f := 11) rfl ?_); refine goesM_ (some 10) Try.func11 #[] rfl ?_; (with_reducible refine (astrolabelaw03_examples.calls k  true _ A2.out).mono ?_); rintro e w12 ⟨rfl, hb⟩; refine ⟨_, rfl, ?_⟩; have n0_ := A0_ (below_step bl_ hb); clear HB; have HB := n0_; clear n0_; (try clear hb); (try clear hb2); (try clear hk); (try clear hi); obtain ⟨i013, hi013, _, hsz13, _⟩ := info_parts info37; obtain ⟨hcut13, hA13, hC13⟩ := print_take_of (P := Try.prog) (Value.int .u32) 0 22 37 .i64 Try.underlying22 hi013 hsz13 A0 c0 l0 (ji4) od_ od_ HC0.out; have HR634 := A0_ (Kd.C_of_reads (h1 := fun _ => rfl) (hA13 _ (Kd.reads_of_C HR0.out))); have HC634 := A0_ hC13; clear hA13 hC13 hi013 hsz13) | ((with_reducible refine gate_callee (f := 17) rfl ?_); refine goesM_ (some 20) Try.func17 #[.slice A0 (l0.take ((ji4) : Int).toNat).length c0] rfl ?_ (by (try simp only [List.map_toArray, List.map_cons, List.map_nil]); first | done | (rw [show (l0.take ((ji4) : Int).toNat).length = (ji4).toNat from (by rw [List.length_take]; have h_ : ((ji4) : Int) ≤ (l0.length : Int) := (by first | exact od_ | (rw [← hji4]; unfold mn; split <;> omega)); omega)] <;> rfl) | (simp only [hji4]; rfl) | rfl | (simp only [List.length_drop, List.length_take]; rfl)); (with_reducible refine (quo_Sqrt.calls k _ _ (l0.take ((ji4) : Int).toNat) t635 t638 _ ?side1 ?side2 A7.out).mono ?_); (case side1 => exact mvC (Kd.C_below HR634.out HB.out)); (case side2 => exact HC634.out); rintro e w14 ⟨v636, v639, rfl, ho0, ho1, hb⟩; refine ⟨_, rfl, ?_⟩; have n0_ := A0_ (Kd.V_lower (Kd.V_mono (ok' := fun k_ => True) ho0 (fun k_ hk_ => trivial)) (below_size bl_)); have n1_ := A0_ (Kd.V_lower (Kd.V_mono (ok' := fun k_ => True) ho1 (fun k_ hk_ => trivial)) (below_size bl_)); have n2_ := A0_ (below_step bl_ hb); clear HB; have HO637 := n0_; have HO640 := n1_; have HB := n2_; clear n0_ n1_ n2_; (try clear hb); (try clear hb2); (try clear hk); (try clear hi); (try clear ho0); (try clear ho1)) | ((with_reducible refine gate_callee (f := 18) rfl ?_); refine goesM_ (some 25) Try.func18 #[.slice A0 (l0.take ((ji4) : Int).toNat).length c0] rfl ?_ (by (try simp only [List.map_toArray, List.map_cons, List.map_nil]); first | done | (rw [show (l0.take ((ji4) : Int).toNat).length = (ji4).toNat from (by rw [List.length_take]; have h_ : ((ji4) : Int) ≤ (l0.length : Int) := (by first | exact od_ | (rw [← hji4]; unfold mn; split <;> omega)); omega)] <;> rfl) | (simp only [hji4]; rfl) | rfl | (simp only [List.length_drop, List.length_take]; rfl)); (with_reducible refine (astrolaberef03_Sqrt.calls k _ _ (l0.take ((ji4) : Int).toNat) t641 t642 _ ?side1 ?side2 A8.out).mono ?_); (case side1 => exact mvC (Kd.C_below HR634.out HB.out)); (case side2 => exact HC634.out); rintro e w15 ⟨v643, v645, rfl, ho0, ho1, hb⟩; refine ⟨_, rfl, ?_⟩; have n0_ := A0_ (Kd.V_mono (Kd.V_told (Kd.V_told (Kd.V_old (mvV HO637.out) hb) (Kd.R_base ho0)) (Kd.R_base ho1)) (fun _ h_ => h_.1)); have n1_ := A0_ (Kd.V_mono (Kd.V_told (Kd.V_told (Kd.V_old (mvV HO640.out) hb) (Kd.R_base ho0)) (Kd.R_base ho1)) (fun _ h_ => h_.1)); have n2_ := A0_ (Kd.R_lower ho0 (below_size bl_)); have n3_ := A0_ (Kd.R_lower ho1 (below_size bl_)); have n4_ := A0_ (below_step bl_ hb); clear HO637; clear HO640; clear HB; have HO637 := n0_; have HO640 := n1_; have HO644 := n2_; have HO646 := n3_; have HB := n4_; clear n0_ n1_ n2_ n3_ n4_; (try clear hb); (try clear hb2); (try clear hk); (try clear hi); (try clear ho0); (try clear ho1); obtain ⟨Ao16, co16, eo16⟩ := Kd.V_slice HO637.out; subst eo16; obtain ⟨Ao17, co17, eo17⟩ := Kd.R_slice HO644.out; subst eo17) | ((with_reducible refine gate_callee (f := 14) rfl ?_); refine goesM_ (some 30) Try.func14 #[.slice Ao16 t635.length co16, .slice Ao17 t641.length co17] rfl ?_; (with_reducible refine (astrolabelaw03_digits.calls k _ _ t635 _ _ t641 true _ ?side1 ?side2 ?side3 ?side4 A9.out).mono ?_); (case side1 => exact mvC (Kd.V_reads' HO637.out).2.2); (case side2 => exact (Kd.V_reads' HO637.out).2.1); (case side3 => exact mvC (Kd.R_reads' HO644.out).2.2); (case side4 => exact (Kd.R_reads' HO644.out).2.1); rintro e w' ⟨rfl, ⟨nd, rfl⟩⟩; refine ⟨_, rfl, ?_⟩; obtain ⟨Ao18, co18, eo18⟩ := Kd.V_slice HO640.out; subst eo18; obtain ⟨Ao19, co19, eo19⟩ := Kd.R_slice HO646.out; subst eo19) | ((with_reducible refine gate_callee (f := 14) rfl ?_); refine goesM_ (some 33) Try.func14 #[.slice Ao18 t638.length co18, .slice Ao19 t642.length co19] rfl ?_; (with_reducible refine (astrolabelaw03_digits.calls k _ _ t638 _ _ t642 t648 _ ?side1 ?side2 ?side3 ?side4 A10.out).mono ?_); (case side1 => exact mvC (Kd.V_reads' HO640.out).2.2); (case side2 => exact (Kd.V_reads' HO640.out).2.1); (case side3 => exact mvC (Kd.R_reads' HO646.out).2.2); (case side4 => exact (Kd.R_reads' HO646.out).2.1); rintro e w' ⟨rfl, ⟨nd, rfl⟩⟩; refine ⟨_, rfl, ?_⟩))
      go_ret
      exact ⟨by first | rfl | (simp [errW_none, errW_some] <;> rfl) | (simp only [← hji4]; first | rfl | (simp [errW_none, errW_some] <;> rfl)) | (simp [*, errW_none, errW_some] <;> rfl), bl_⟩
    · replace c11 := Bool.eq_false_iff.mpr c11
      subst c11
      have H1 : (none) = some r := by rw [if_neg (show ¬ (false = true) by decide)] at H; exact H
      clear H
      have H := H1
      clear H1
      exact absurd H (by simp)
  · replace c3 := Bool.eq_false_iff.mpr c3
    subst c3
    have H1 : (none) = some r := by rw [if_neg (show ¬ (false = true) by decide)] at H; exact H
    clear H
    have H := H1
    clear H1
    exact absurd H (by simp)

/-- THE ONE PURE STATEMENT of astrolabelaw03_QuoRoots: yours. -/
def astrolabelaw03_QuoRoots.Pure : Prop := ∀ (l0 : List Int), l0.length ≤ maxLen → l0.length * 4 ≤ 140737488351232 → (∀ x ∈ l0, (Lit.int .u32 x).wf = true) → ∃ k, astrolabelaw03_QuoRoots.f k l0 = some true
theorem astrolabelaw03_QuoRoots.walk (P : astrolabelaw03_QuoRoots.Pure) (a0 : Option Addr) (len0 cap0 : Nat) (z0 : List Int) (w : World) (w0 : (a0 = none ∧ len0 = 0 ∧ cap0 = 0 ∧ z0 = []) ∨ ∃ x, a0 = some x ∧ len0 ≤ cap0 ∧ cap0 ≤ maxLen ∧ z0.length = cap0 ∧ (∀ i, i < z0.length → w.cell? (x.add i) = some (.int .u32 (z0.getD i 0))) ∧ ∀ n ∈ z0, (Lit.int .u32 n).wf = true) (y0 : len0 * 4 ≤ 140737488351232) :
    Calls Try.prog 4 #[.slice a0 len0 cap0] w fun e w' => e = .returned (.bool true) ∧ Below w.heap.size w w' := by
  obtain ⟨l0, rfl, hr0, hm0, hw0, hc0⟩ := ReadsInt.ofRowC w0
  obtain ⟨k, h⟩ := P l0 hm0 y0 hw0
  refine (astrolabelaw03_QuoRoots.calls k _ _ l0 true w (Kd.C_of_reads (d := (0 : Int)) (h1 := fun _ => rfl) hr0) hc0 h).mono ?_
  rintro e w' ⟨rfl, hd⟩
  exact ⟨rfl, hd⟩

end Go.Proofs.Ytohkjfdcmiiehaa.P
