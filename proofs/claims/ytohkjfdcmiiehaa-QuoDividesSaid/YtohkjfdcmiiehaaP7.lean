/- What the Go functions of these names come to, as plain Lean functions, and the walks that show it. Written for this claim by a turned copy of the print program; Lean checks it. -/
import Derived.Test.YtohkjfdcmiiehaaP0
import Derived.Test.YtohkjfdcmiiehaaP5
namespace Go.Proofs.Ytohkjfdcmiiehaa.P
open Go.RowKit Go.Proofs.YtohkjfdcmiiehaaW.PrintWords Go.Proofs.YtohkjfdcmiiehaaW.PrintLast Go.Proofs.YtohkjfdcmiiehaaW.PrintMore
attribute [local go_sem] max2_int min2_int max_two min_two max_three min_three max_four min_four   -- for this text's walks alone
set_option linter.unusedVariables false
set_option linter.unusedSimpArgs false

/-! ### astrolaberef01_Shr: function 37 -/
def astrolaberef01_Shr.l0 : Nat → List Int → Int → List Int → Int → Option (List Int)
  | 0, _, _, _, _ => none
  | k + 1, x0, x1, x5, x6 => if x6 < (x0.length : Int) then ((astrolaberef01_at.f x0 x6).bind fun t485 => ((astrolaberef01_at.f x0 (wrap64 (x6 + 1))).bind fun t486 => (if 0 ≤ (Int.tmod x1 32) then (if x5.length < 35184372088832 then (astrolaberef01_Shr.l0 k x0 x1 (x5 ++ [(shr .u64 (Go.bits .or .u64 t485 (IntKind.u64.wrap (t486 * 4294967296))) (Int.tmod x1 32)) % 4294967296]) (wrap64 (x6 + 1))) else (none)) else (none)))) else ((astrolaberef01_Trim.f k x5).bind fun t490 => (some t490))
def astrolaberef01_Shr.f (k : Nat) (l0 : List Int) (a1 : Int) : Option (List Int) := if a1 < 0 then ((astrolaberef01_Trim.f k l0).bind fun t482 => (some t482)) else (if (wrap64 (Int.tdiv a1 32)) ≥ (l0.length : Int) then (some ([] : List Int)) else (astrolaberef01_Shr.l0 k l0 a1 ([] : List Int) (wrap64 (Int.tdiv a1 32))))
theorem astrolaberef01_Shr.mono_l : ∀ k, (∀ y0 y1 y2 y3, LeO (astrolaberef01_Shr.l0 k y0 y1 y2 y3) (astrolaberef01_Shr.l0 (k + 1) y0 y1 y2 y3))
  | 0 => fun _ _ _ _ r h => by simp [astrolaberef01_Shr.l0] at h
  | k + 1 => by
    have ih0 := astrolaberef01_Shr.mono_l k
    · intro y0 y1 y2 y3
      unfold astrolaberef01_Shr.l0
      repeat' first
      | (with_reducible exact ih0 _ _ _ _)
      | (with_reducible exact astrolaberef01_Trim.mono _ _)
      | (with_reducible exact LeO.refl _)
      | (with_reducible exact LeO.none _)
      | (with_reducible refine LeO.ite ?_ ?_)
      | (with_reducible refine LeO.bind ?_ (fun _ => ?_))
      | exact ih0 _ _ _ _
      | exact astrolaberef01_Trim.mono _ _
      | exact LeO.none _
      | refine LeO.ite ?_ ?_
      | refine LeO.bind ?_ (fun _ => ?_)
theorem astrolaberef01_Shr.mono : ∀ a0 a1 k, LeO (astrolaberef01_Shr.f k a0 a1) (astrolaberef01_Shr.f (k + 1) a0 a1) := by
  intro a0 a1 k
  have ih0 := astrolaberef01_Shr.mono_l k
  unfold astrolaberef01_Shr.f
  repeat' first
      | (with_reducible exact ih0 _ _ _ _)
      | (with_reducible exact astrolaberef01_Trim.mono _ _)
      | (with_reducible exact LeO.refl _)
      | (with_reducible exact LeO.none _)
      | (with_reducible refine LeO.ite ?_ ?_)
      | (with_reducible refine LeO.bind ?_ (fun _ => ?_))
      | exact ih0 _ _ _ _
      | exact astrolaberef01_Trim.mono _ _
      | exact LeO.none _
      | refine LeO.ite ?_ ?_
      | refine LeO.bind ?_ (fun _ => ?_)
set_option maxHeartbeats 8000000 in
set_option maxRecDepth 100000 in
theorem astrolaberef01_Shr.calls (k : Nat) (A0 : Option Addr) (c0 : Nat) (l0 : List Int) (a1 : Int) (r : List Int) (w : World) (hr0 : Kd.C (Kd.int .u32) w A0 l0.length l0) (hc0 : l0.length ≤ c0) (h : astrolaberef01_Shr.f k l0 a1 = some r) :
    Calls Try.prog 37 #[.slice A0 l0.length c0, .int .i64 a1] w fun e w' => ∃ v0_ : Value, e = .returned (v0_) ∧ Kd.R (Kd.int .u32) 37 w' w.heap.size (fun _ => True) v0_ r ∧ Below w.heap.size w w' := by
  have HR0 := A0_ hr0
  have HC0 := A0_ hc0
  clear hr0 hc0
  have HB := A0_ (Below.refl w.heap.size w)
  have H : (if a1 < 0 then ((astrolaberef01_Trim.f k l0).bind fun t482 => (some t482)) else (if (wrap64 (Int.tdiv a1 32)) ≥ (l0.length : Int) then (some ([] : List Int)) else (astrolaberef01_Shr.l0 k l0 a1 ([] : List Int) (wrap64 (Int.tdiv a1 32))))) = some r := h
  clear h
  by_cases c3 : a1 < 0
  · rw [if_pos c3] at H
    have c3b0 : decide (a1 < 0) = true := decide_eq_true c3
    clear c3
    replace H := Option.bind_eq_some_iff.mp H
    obtain ⟨t482, A40, H⟩ := H
    (try dsimp only at H)
    have A4 := A0_ A40
    clear A40
    obtain rfl := Option.some.inj H
    go_enter Try.func37, Try.ntmps37
    go_wp2_with (first | ((with_reducible refine gate_callee (f := 29) rfl ?_); refine goesM_ (some 11) Try.func29 #[.slice A0 l0.length c0] rfl ?_; (with_reducible refine (astrolaberef01_Trim.calls k _ _ l0 t482 _ ?side1 ?side2 A4.out).mono ?_); (case side1 => exact mvC HR0.out); (case side2 => exact HC0.out); rintro e w5 ⟨v483, rfl, ho0, hb⟩; refine ⟨_, rfl, ?_⟩; have n0_ := A0_ (Kd.R_lower ho0 (below_size bl_)); have n1_ := A0_ (below_step bl_ hb); clear HB; have HO484 := n0_; have HB := n1_; clear n0_ n1_; (try clear hb); (try clear hb2); (try clear hk); (try clear hi); (try clear ho0)))
    go_ret
    exact ⟨_, by first | rfl | (simp [errW_none, errW_some] <;> rfl) | (simp [*, errW_none, errW_some] <;> rfl), mvR HO484.out, bl_⟩
  · rw [if_neg c3] at H
    have c3b0 : decide (a1 < 0) = false := decide_eq_false c3
    clear c3
    by_cases c6 : (wrap64 (Int.tdiv a1 32)) ≥ (l0.length : Int)
    · rw [if_pos c6] at H
      have c6b0 : decide ((l0.length : Int) ≤ (wrap64 (Int.tdiv a1 32))) = true := decide_eq_true c6
      clear c6
      obtain rfl := Option.some.inj H
      go_enter Try.func37, Try.ntmps37
      go_wp2
      go_ret
      exact ⟨(.slice none 0 0), by first | rfl | (simp [errW_none, errW_some] <;> rfl) | (simp [*, errW_none, errW_some] <;> rfl), by first | exact Kd.R_nil _ _ _ _ _ | exact Kd.N_nil _ _ _ _ _ | exact Kd.V_nil _ _ _ _ _ | exact Kd.Q_nil _ _ _ _ _ | exact Kd.S_nil _ _ _ _ _, bl_⟩
    · rw [if_neg c6] at H
      have c6b0 : decide ((l0.length : Int) ≤ (wrap64 (Int.tdiv a1 32))) = false := decide_eq_false c6
      clear c6
      have H' := A0_ H
      clear H
      go_enter Try.func37, Try.ntmps37
      go_wp2
      go_loopg [5, 6] k (fun kq v5 v6 w' => ∃ (x5_1 : List Int) (x6_1 : Int), v6 = .int .i64 x6_1 ∧ Aside0 (astrolaberef01_Shr.l0 kq l0 a1 x5_1 x6_1 = some r) ∧ Aside0 (kq ≤ k) ∧ Aside0 (Kd.R (Kd.int .u32) 37 w' w.heap.size (fun _ => True) v5 x5_1) ∧ Aside0 (Below w.heap.size w w'))
      case atStart => exact ⟨(([] : List Int)), (wrap64 (Int.tdiv a1 32)), rs_, H', ⟨Nat.le_refl _⟩, ⟨by first | exact Kd.R_nil _ _ _ _ _ | exact Kd.N_nil _ _ _ _ _ | exact Kd.V_nil _ _ _ _ _ | exact Kd.Q_nil _ _ _ _ _ | exact Kd.S_nil _ _ _ _ _⟩, ⟨bl_⟩⟩
      case round =>
        clear H'
        (try clear c2); (try clear p2); (try clear c3); (try clear c3b0); (try clear c6); (try clear c6b0); (try clear p6)
        obtain ⟨x5_1, x6_1, rfl, HA, HK1, HO_5, HB⟩ := hrel
        cases gk with
        | zero => exact absurd HA.out (by simp [astrolaberef01_Shr.l0])
        | succ k1 =>
          have H := HA.out
          clear HA
          simp only [astrolaberef01_Shr.l0] at H
          by_cases c7 : x6_1 < (l0.length : Int)
          · rw [if_pos c7] at H
            have c7b0 : decide (x6_1 < (l0.length : Int)) = true := decide_eq_true c7
            clear c7
            replace H := Option.bind_eq_some_iff.mp H
            obtain ⟨t485, A80, H⟩ := H
            (try dsimp only at H)
            have A8 := A0_ A80
            clear A80
            replace H := Option.bind_eq_some_iff.mp H
            obtain ⟨t486, A90, H⟩ := H
            (try dsimp only at H)
            have A9 := A0_ A90
            clear A90
            obtain ⟨ji10, hji10⟩ : ∃ j_ : Int, (Int.tmod a1 32) = j_ := ⟨_, rfl⟩
            (first | rw [hji10] at H | simp only [hji10] at H)
            (try rw [hji10] at A8)
            (try rw [hji10] at A9)
            by_cases c11 : 0 ≤ (ji10)
            case neg => rw [if_neg c11] at H; exact absurd H (by simp)
            rw [if_pos c11] at H
            have c11b0 := eq_true c11
            have c11b1 : decide (0 ≤ (ji10)) = true := decide_eq_true c11
            clear c11
            obtain ⟨ji12, hji12⟩ : ∃ j_ : Int, (shr .u64 (Go.bits .or .u64 t485 (IntKind.u64.wrap (t486 * 4294967296))) (ji10)) = j_ := ⟨_, rfl⟩
            (first | rw [hji12] at H | simp only [hji12] at H)
            (try rw [hji12] at A8)
            (try rw [hji12] at A9)
            have hji12_ : ((Go.bits .or .u64 t485 (IntKind.u64.wrap (t486 * 4294967296))) / 2 ^ min (ji10).toNat 64) = ji12 := hji12
            have hji12z : (ji10) ≤ 64 → ((Go.bits .or .u64 t485 (IntKind.u64.wrap (t486 * 4294967296))) / 2 ^ (ji10).toNat) = ji12 := shr_small hji12
            by_cases c13 : x5_1.length < 35184372088832
            case neg => rw [if_neg c13] at H; exact absurd H (by simp)
            rw [if_pos c13] at H
            have LMc13 := A0_ c13
            clear c13
            obtain ⟨y487, hy487⟩ : ∃ y_ : List Int, y_ = (x5_1 ++ [(ji12) % 4294967296]) := ⟨_, rfl⟩
            replace H : (astrolaberef01_Shr.l0 k1 l0 a1 y487 (wrap64 (x6_1 + 1))) = some r := by first | (rw [hy487]; with_reducible exact H) | (rw [hy487]; exact H) | exact H
            have Ny487 := A0_ hy487
            clear hy487
            have H' := A0_ H
            clear H
            go_wp2_with (first | ((with_reducible refine gate_callee (f := 50) rfl ?_); refine goesM_ (some 27) Try.func50 #[.slice A0 l0.length c0, .int .i64 x6_1] rfl ?_; (with_reducible refine (astrolaberef01_at.calls _ _ l0 x6_1 t485 _ ?side1 ?side2 A8.out).mono ?_); (case side1 => exact mvC (Kd.C_below HR0.out HB.out)); (case side2 => exact HC0.out); rintro e w' ⟨rfl, ⟨nd, rfl⟩⟩; refine ⟨_, rfl, ?_⟩) | ((with_reducible refine gate_callee (f := 50) rfl ?_); refine goesM_ (some 31) Try.func50 #[.slice A0 l0.length c0, .int .i64 (wrap64 (x6_1 + 1))] rfl ?_; (with_reducible refine (astrolaberef01_at.calls _ _ l0 (wrap64 (x6_1 + 1)) t486 _ ?side1 ?side2 A9.out).mono ?_); (case side1 => exact mvC (Kd.C_below HR0.out bl_)); (case side2 => exact HC0.out); rintro e w' ⟨rfl, ⟨nd, rfl⟩⟩; refine ⟨_, rfl, ?_⟩) | ((with_reducible refine gate_builtin (b := .append) (xs := #[.tmp 34, .tmp 40]) rfl ?_); at_builtin; refine Kd.R_append (Kd.int .u32) (w0 := w) w.heap.size rfl (.tmp 34) (.tmp 40) 22 37 (.int .u32 0) 4 rfl Try.underlying22 info37 rfl (by decide) (by omega) u5 x5_1 ((ji12) % 4294967296) [.int .u32 ((ji12) % 4294967296)] (fun _ => True) (fun _ => False) rfl rfl ?aP (fun _ hk => hk.elim) ?aF ?aO ?aB ?aS ?aL ?_; (case aP => exact rfl); (case aB => exact bl_); (case aF => exact (fun _ _ => trivial)); (case aO => exact (mvR HO_5.out)); (case aS => exact (below_size bl_)); (case aL => have := LMc13.out; omega); intro v488 w14 ho hb hg hat; rw [← Ny487.out] at ho; have n0_ := A0_ (hb); have n1_ := A0_ (ho); clear HB; clear HO_5; have HB := n0_; have HO489 := n1_; clear n0_ n1_; clear ho hb hg hat))
            go_roundg k1
            case measure => have := HK1.out; omega
            case rel => exact ⟨(y487), (wrap64 (x6_1 + 1)), rs_, H', ⟨by have := HK1.out; omega⟩, ⟨mvR HO489.out⟩, ⟨bl_⟩⟩
          · rw [if_neg c7] at H
            have c7b0 : decide (x6_1 < (l0.length : Int)) = false := decide_eq_false c7
            clear c7
            replace H := Option.bind_eq_some_iff.mp H
            obtain ⟨t490, A150, H⟩ := H
            (try dsimp only at H)
            have A15 := A0_ A150
            clear A150
            obtain rfl := Option.some.inj H
            obtain ⟨Ao16, co16, eo16⟩ := Kd.R_slice HO_5.out
            subst eo16
            go_wp2_with (first | ((with_reducible refine gate_callee (f := 29) rfl ?_); refine goesM_ (some 43) Try.func29 #[.slice Ao16 x5_1.length co16] rfl ?_; (with_reducible refine (astrolaberef01_Trim.calls k1 _ _ x5_1 t490 _ ?side1 ?side2 A15.out).mono ?_); (case side1 => exact mvC (Kd.R_reads' HO_5.out).2.2); (case side2 => exact (Kd.R_reads' HO_5.out).2.1); rintro e w17 ⟨v491, rfl, ho0, hb⟩; refine ⟨_, rfl, ?_⟩; have n0_ := A0_ (Kd.R_elder' (mvR HO_5.out) (Kd.R_base ho0) hb); have n1_ := A0_ (Kd.R_lower (Kd.R_new' ho0 (Kd.R_lt (mvR HO_5.out))) (below_size bl_)); have n2_ := A0_ (below_step bl_ hb); clear HO_5; clear HB; have HO_5 := n0_; have HO492 := n1_; have HB := n2_; clear n0_ n1_ n2_; (try clear hb); (try clear hb2); (try clear hk); (try clear hi); (try clear ho0)))
            go_ret
            exact ⟨_, by first | rfl | (simp [errW_none, errW_some] <;> rfl) | (simp [*, errW_none, errW_some] <;> rfl), mvR (Kd.R_mono HO492.out (fun _ hk => trivial)), bl_⟩

/-! ### astrolaberef01_Add: function 39 -/
def astrolaberef01_Add.l0 : Nat → List Int → List Int → List Int → Int → Int → Option (List Int)
  | 0, _, _, _, _, _ => none
  | k + 1, x0, x1, x5, x6, x7 => if x7 < (wrap64 ((mx (x0.length : Int) (x1.length : Int)) + 1)) then ((astrolaberef01_at.f x0 x7).bind fun t596 => ((astrolaberef01_at.f x1 x7).bind fun t597 => (if x5.length < 35184372088832 then (astrolaberef01_Add.l0 k x0 x1 (x5 ++ [(IntKind.u64.wrap ((IntKind.u64.wrap (t596 + t597)) + x6)) % 4294967296]) ((IntKind.u64.wrap ((IntKind.u64.wrap (t596 + t597)) + x6)) / 4294967296) (wrap64 (x7 + 1))) else (none)))) else ((astrolaberef01_Trim.f k x5).bind fun t601 => (some t601))
def astrolaberef01_Add.f (k : Nat) (l0 : List Int) (l1 : List Int) : Option (List Int) := astrolaberef01_Add.l0 k l0 l1 ([] : List Int) 0 0
theorem astrolaberef01_Add.mono_l : ∀ k, (∀ y0 y1 y2 y3 y4, LeO (astrolaberef01_Add.l0 k y0 y1 y2 y3 y4) (astrolaberef01_Add.l0 (k + 1) y0 y1 y2 y3 y4))
  | 0 => fun _ _ _ _ _ r h => by simp [astrolaberef01_Add.l0] at h
  | k + 1 => by
    have ih0 := astrolaberef01_Add.mono_l k
    · intro y0 y1 y2 y3 y4
      unfold astrolaberef01_Add.l0
      repeat' first
      | (with_reducible exact ih0 _ _ _ _ _)
      | (with_reducible exact astrolaberef01_Trim.mono _ _)
      | (with_reducible exact LeO.refl _)
      | (with_reducible exact LeO.none _)
      | (with_reducible refine LeO.ite ?_ ?_)
      | (with_reducible refine LeO.bind ?_ (fun _ => ?_))
      | exact ih0 _ _ _ _ _
      | exact astrolaberef01_Trim.mono _ _
      | exact LeO.none _
      | refine LeO.ite ?_ ?_
      | refine LeO.bind ?_ (fun _ => ?_)
theorem astrolaberef01_Add.mono : ∀ a0 a1 k, LeO (astrolaberef01_Add.f k a0 a1) (astrolaberef01_Add.f (k + 1) a0 a1) := by
  intro a0 a1 k
  have ih0 := astrolaberef01_Add.mono_l k
  unfold astrolaberef01_Add.f
  repeat' first
      | (with_reducible exact ih0 _ _ _ _ _)
      | (with_reducible exact astrolaberef01_Trim.mono _ _)
      | (with_reducible exact LeO.refl _)
      | (with_reducible exact LeO.none _)
      | (with_reducible refine LeO.ite ?_ ?_)
      | (with_reducible refine LeO.bind ?_ (fun _ => ?_))
      | exact ih0 _ _ _ _ _
      | exact astrolaberef01_Trim.mono _ _
      | exact LeO.none _
      | refine LeO.ite ?_ ?_
      | refine LeO.bind ?_ (fun _ => ?_)
set_option maxHeartbeats 8000000 in
set_option maxRecDepth 100000 in
theorem astrolaberef01_Add.calls (k : Nat) (A0 : Option Addr) (c0 : Nat) (l0 : List Int) (A1 : Option Addr) (c1 : Nat) (l1 : List Int) (r : List Int) (w : World) (hr0 : Kd.C (Kd.int .u32) w A0 l0.length l0) (hc0 : l0.length ≤ c0) (hr1 : Kd.C (Kd.int .u32) w A1 l1.length l1) (hc1 : l1.length ≤ c1) (h : astrolaberef01_Add.f k l0 l1 = some r) :
    Calls Try.prog 39 #[.slice A0 l0.length c0, .slice A1 l1.length c1] w fun e w' => ∃ v0_ : Value, e = .returned (v0_) ∧ Kd.R (Kd.int .u32) 37 w' w.heap.size (fun _ => True) v0_ r ∧ Below w.heap.size w w' := by
  have HR0 := A0_ hr0
  have HC0 := A0_ hc0
  clear hr0 hc0
  have HR1 := A0_ hr1
  have HC1 := A0_ hc1
  clear hr1 hc1
  have HB := A0_ (Below.refl w.heap.size w)
  have H : (astrolaberef01_Add.l0 k l0 l1 ([] : List Int) 0 0) = some r := h
  clear h
  have H' := A0_ H
  clear H
  go_enter Try.func39, Try.ntmps39
  go_wp2
  go_loopg [5, 6, 7] k (fun kq v5 v6 v7 w' => ∃ (x5_1 : List Int) (x6_1 : Int) (x7_1 : Int), v6 = .int .u64 x6_1 ∧ v7 = .int .i64 x7_1 ∧ Aside0 (astrolaberef01_Add.l0 kq l0 l1 x5_1 x6_1 x7_1 = some r) ∧ Aside0 (kq ≤ k) ∧ Aside0 (Kd.R (Kd.int .u32) 37 w' w.heap.size (fun _ => True) v5 x5_1) ∧ Aside0 (Below w.heap.size w w'))
  case atStart => exact ⟨(([] : List Int)), (0), (0), rs_, rs_, H', ⟨Nat.le_refl _⟩, ⟨by first | exact Kd.R_nil _ _ _ _ _ | exact Kd.N_nil _ _ _ _ _ | exact Kd.V_nil _ _ _ _ _ | exact Kd.Q_nil _ _ _ _ _ | exact Kd.S_nil _ _ _ _ _⟩, ⟨bl_⟩⟩
  case round =>
    clear H'
    (try clear c1); (try clear p2)
    obtain ⟨x5_1, x6_1, x7_1, rfl, rfl, HA, HK1, HO_5, HB⟩ := hrel
    cases gk with
    | zero => exact absurd HA.out (by simp [astrolaberef01_Add.l0])
    | succ k1 =>
      have H := HA.out
      clear HA
      simp only [astrolaberef01_Add.l0] at H
      obtain ⟨ji3, hji3⟩ : ∃ j_ : Int, (mx (l0.length : Int) (l1.length : Int)) = j_ := ⟨_, rfl⟩
      (first | rw [hji3] at H | simp only [hji3] at H)
      (try (have hji3l : 0 ≤ ji3 := by (rw [← hji3]; unfold mx; (repeat' split) <;> omega)))
      (try (have hji3m : 0 ≤ ji3 := by omega))
      have hji3_ : (if (l0.length : Int) < (l1.length : Int) then (l1.length : Int) else (l0.length : Int)) = ji3 := hji3
      have hji3n : (if l0.length < l1.length then ((l1.length : Nat) : Int) else ((l0.length : Nat) : Int)) = ji3 := by rw [← hji3]; unfold mx; split <;> split <;> omega
      by_cases c4 : x7_1 < (wrap64 ((ji3) + 1))
      · rw [if_pos c4] at H
        have c4b0 : decide (x7_1 < (wrap64 ((ji3) + 1))) = true := decide_eq_true c4
        clear c4
        replace H := Option.bind_eq_some_iff.mp H
        obtain ⟨t596, A50, H⟩ := H
        (try dsimp only at H)
        have A5 := A0_ A50
        clear A50
        replace H := Option.bind_eq_some_iff.mp H
        obtain ⟨t597, A60, H⟩ := H
        (try dsimp only at H)
        have A6 := A0_ A60
        clear A60
        by_cases c7 : x5_1.length < 35184372088832
        case neg => rw [if_neg c7] at H; exact absurd H (by simp)
        rw [if_pos c7] at H
        have LMc7 := A0_ c7
        clear c7
        obtain ⟨y598, hy598⟩ : ∃ y_ : List Int, y_ = (x5_1 ++ [(IntKind.u64.wrap ((IntKind.u64.wrap (t596 + t597)) + x6_1)) % 4294967296]) := ⟨_, rfl⟩
        replace H : (astrolaberef01_Add.l0 k1 l0 l1 y598 ((IntKind.u64.wrap ((IntKind.u64.wrap (t596 + t597)) + x6_1)) / 4294967296) (wrap64 (x7_1 + 1))) = some r := by first | (rw [hy598]; with_reducible exact H) | (rw [hy598]; exact H) | exact H
        have Ny598 := A0_ hy598
        clear hy598
        have H' := A0_ H
        clear H
        go_wp2_with (first | ((with_reducible refine gate_callee (f := 50) rfl ?_); refine goesM_ (some 21) Try.func50 #[.slice A0 l0.length c0, .int .i64 x7_1] rfl ?_; (with_reducible refine (astrolaberef01_at.calls _ _ l0 x7_1 t596 _ ?side1 ?side2 A5.out).mono ?_); (case side1 => exact mvC (Kd.C_below HR0.out HB.out)); (case side2 => exact HC0.out); rintro e w' ⟨rfl, ⟨nd, rfl⟩⟩; refine ⟨_, rfl, ?_⟩) | ((with_reducible refine gate_callee (f := 50) rfl ?_); refine goesM_ (some 24) Try.func50 #[.slice A1 l1.length c1, .int .i64 x7_1] rfl ?_; (with_reducible refine (astrolaberef01_at.calls _ _ l1 x7_1 t597 _ ?side1 ?side2 A6.out).mono ?_); (case side1 => exact mvC (Kd.C_below HR1.out bl_)); (case side2 => exact HC1.out); rintro e w' ⟨rfl, ⟨nd, rfl⟩⟩; refine ⟨_, rfl, ?_⟩) | ((with_reducible refine gate_builtin (b := .append) (xs := #[.tmp 28, .tmp 31]) rfl ?_); at_builtin; refine Kd.R_append (Kd.int .u32) (w0 := w) w.heap.size rfl (.tmp 28) (.tmp 31) 22 37 (.int .u32 0) 4 rfl Try.underlying22 info37 rfl (by decide) (by omega) u5 x5_1 ((IntKind.u64.wrap ((IntKind.u64.wrap (t596 + t597)) + x6_1)) % 4294967296) [.int .u32 ((IntKind.u64.wrap ((IntKind.u64.wrap (t596 + t597)) + x6_1)) % 4294967296)] (fun _ => True) (fun _ => False) rfl rfl ?aP (fun _ hk => hk.elim) ?aF ?aO ?aB ?aS ?aL ?_; (case aP => exact rfl); (case aB => exact bl_); (case aF => exact (fun _ _ => trivial)); (case aO => exact (mvR HO_5.out)); (case aS => exact (below_size bl_)); (case aL => have := LMc7.out; omega); intro v599 w8 ho hb hg hat; rw [← Ny598.out] at ho; have n0_ := A0_ (hb); have n1_ := A0_ (ho); clear HB; clear HO_5; have HB := n0_; have HO600 := n1_; clear n0_ n1_; clear ho hb hg hat))
        go_roundg k1
        case measure => have := HK1.out; omega
        case rel => exact ⟨(y598), ((IntKind.u64.wrap ((IntKind.u64.wrap (t596 + t597)) + x6_1)) / 4294967296), (wrap64 (x7_1 + 1)), rs_, rs_, H', ⟨by have := HK1.out; omega⟩, ⟨mvR HO600.out⟩, ⟨bl_⟩⟩
      · rw [if_neg c4] at H
        have c4b0 : decide (x7_1 < (wrap64 ((ji3) + 1))) = false := decide_eq_false c4
        clear c4
        replace H := Option.bind_eq_some_iff.mp H
        obtain ⟨t601, A90, H⟩ := H
        (try dsimp only at H)
        have A9 := A0_ A90
        clear A90
        obtain rfl := Option.some.inj H
        obtain ⟨Ao10, co10, eo10⟩ := Kd.R_slice HO_5.out
        subst eo10
        go_wp2_with (first | ((with_reducible refine gate_callee (f := 29) rfl ?_); refine goesM_ (some 36) Try.func29 #[.slice Ao10 x5_1.length co10] rfl ?_; (with_reducible refine (astrolaberef01_Trim.calls k1 _ _ x5_1 t601 _ ?side1 ?side2 A9.out).mono ?_); (case side1 => exact mvC (Kd.R_reads' HO_5.out).2.2); (case side2 => exact (Kd.R_reads' HO_5.out).2.1); rintro e w11 ⟨v602, rfl, ho0, hb⟩; refine ⟨_, rfl, ?_⟩; have n0_ := A0_ (Kd.R_elder' (mvR HO_5.out) (Kd.R_base ho0) hb); have n1_ := A0_ (Kd.R_lower (Kd.R_new' ho0 (Kd.R_lt (mvR HO_5.out))) (below_size bl_)); have n2_ := A0_ (below_step bl_ hb); clear HO_5; clear HB; have HO_5 := n0_; have HO603 := n1_; have HB := n2_; clear n0_ n1_ n2_; (try clear hb); (try clear hb2); (try clear hk); (try clear hi); (try clear ho0)))
        go_ret
        exact ⟨_, by first | rfl | (simp [errW_none, errW_some] <;> rfl) | (simp only [← hji3]; first | rfl | (simp [errW_none, errW_some] <;> rfl)) | (simp [*, errW_none, errW_some] <;> rfl), mvR (Kd.R_mono HO603.out (fun _ hk => trivial)), bl_⟩

end Go.Proofs.Ytohkjfdcmiiehaa.P
