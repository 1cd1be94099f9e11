/- What the Go functions of these names come to, as plain Lean functions, and the walks that show it. Written for this claim by a turned copy of the print program; Lean checks it. -/
import Derived.Test.YtohkjfdcmiiehaaP0
import Derived.Test.YtohkjfdcmiiehaaP5
namespace Go.Proofs.Ytohkjfdcmiiehaa.P
open Go.RowKit Go.Proofs.YtohkjfdcmiiehaaW.PrintWords Go.Proofs.YtohkjfdcmiiehaaW.PrintLast Go.Proofs.YtohkjfdcmiiehaaW.PrintMore
attribute [local go_sem] max2_int min2_int max_two min_two max_three min_three max_four min_four   -- for this text's walks alone
set_option linter.unusedVariables false
set_option linter.unusedSimpArgs false

/-! ### astrolaberef01_Cmp: function 49 -/
def astrolaberef01_Cmp.l0 : Nat → List Int → List Int → Int → Option (Int)
  | 0, _, _, _ => none
  | k + 1, x0, x1, x5 => if x5 ≥ 0 then ((astrolaberef01_at.f x0 x5).bind fun t458 => ((astrolaberef01_at.f x1 x5).bind fun t459 => (if t458 < t459 then (some (-1)) else ((astrolaberef01_at.f x0 x5).bind fun t460 => ((astrolaberef01_at.f x1 x5).bind fun t461 => (if t460 > t461 then (some 1) else (astrolaberef01_Cmp.l0 k x0 x1 (wrap64 (x5 - 1))))))))) else (some 0)
def astrolaberef01_Cmp.f (k : Nat) (l0 : List Int) (l1 : List Int) : Option (Int) := astrolaberef01_Cmp.l0 k l0 l1 (wrap64 ((mx (l0.length : Int) (l1.length : Int)) - 1))
theorem astrolaberef01_Cmp.mono_l : ∀ k, (∀ y0 y1 y2, LeO (astrolaberef01_Cmp.l0 k y0 y1 y2) (astrolaberef01_Cmp.l0 (k + 1) y0 y1 y2))
  | 0 => fun _ _ _ r h => by simp [astrolaberef01_Cmp.l0] at h
  | k + 1 => by
    have ih0 := astrolaberef01_Cmp.mono_l k
    · intro y0 y1 y2
      unfold astrolaberef01_Cmp.l0
      repeat' first
      | (with_reducible exact ih0 _ _ _)
      | (with_reducible exact LeO.refl _)
      | (with_reducible exact LeO.none _)
      | (with_reducible refine LeO.ite ?_ ?_)
      | (with_reducible refine LeO.bind ?_ (fun _ => ?_))
      | exact ih0 _ _ _
      | exact LeO.none _
      | refine LeO.ite ?_ ?_
      | refine LeO.bind ?_ (fun _ => ?_)
theorem astrolaberef01_Cmp.mono : ∀ a0 a1 k, LeO (astrolaberef01_Cmp.f k a0 a1) (astrolaberef01_Cmp.f (k + 1) a0 a1) := by
  intro a0 a1 k
  have ih0 := astrolaberef01_Cmp.mono_l k
  unfold astrolaberef01_Cmp.f
  repeat' first
      | (with_reducible exact ih0 _ _ _)
      | (with_reducible exact LeO.refl _)
      | (with_reducible exact LeO.none _)
      | (with_reducible refine LeO.ite ?_ ?_)
      | (with_reducible refine LeO.bind ?_ (fun _ => ?_))
      | exact ih0 _ _ _
      | exact LeO.none _
      | refine LeO.ite ?_ ?_
      | refine LeO.bind ?_ (fun _ => ?_)
set_option maxHeartbeats 8000000 in
set_option maxRecDepth 100000 in
theorem astrolaberef01_Cmp.calls (k : Nat) (A0 : Option Addr) (c0 : Nat) (l0 : List Int) (A1 : Option Addr) (c1 : Nat) (l1 : List Int) (r : Int) (w : World) (hr0 : Kd.C (Kd.int .u32) w A0 l0.length l0) (hc0 : l0.length ≤ c0) (hr1 : Kd.C (Kd.int .u32) w A1 l1.length l1) (hc1 : l1.length ≤ c1) (h : astrolaberef01_Cmp.f k l0 l1 = some r) :
    Calls Try.prog 49 #[.slice A0 l0.length c0, .slice A1 l1.length c1] w fun e w' => e = .returned (.int .i64 r) ∧ Below w.heap.size w w' := by
  have HR0 := A0_ hr0
  have HC0 := A0_ hc0
  clear hr0 hc0
  have HR1 := A0_ hr1
  have HC1 := A0_ hc1
  clear hr1 hc1
  have HB := A0_ (Below.refl w.heap.size w)
  have H : (astrolaberef01_Cmp.l0 k l0 l1 (wrap64 ((mx (l0.length : Int) (l1.length : Int)) - 1))) = some r := h
  clear h
  obtain ⟨ji3, hji3⟩ : ∃ j_ : Int, (mx (l0.length : Int) (l1.length : Int)) = j_ := ⟨_, rfl⟩
  (first | rw [hji3] at H | simp only [hji3] at H)
  (try (have hji3l : 0 ≤ ji3 := by (rw [← hji3]; unfold mx; (repeat' split) <;> omega)))
  (try (have hji3m : 0 ≤ ji3 := by omega))
  have hji3_ : (if (l0.length : Int) < (l1.length : Int) then (l1.length : Int) else (l0.length : Int)) = ji3 := hji3
  have hji3n : (if l0.length < l1.length then ((l1.length : Nat) : Int) else ((l0.length : Nat) : Int)) = ji3 := by rw [← hji3]; unfold mx; split <;> split <;> omega
  have H' := A0_ H
  clear H
  go_enter Try.func49, Try.ntmps49
  go_wp2
  go_loopg [5] k (fun kq v5 w' => ∃ (x5_1 : Int), v5 = .int .i64 x5_1 ∧ Aside0 (astrolaberef01_Cmp.l0 kq l0 l1 x5_1 = some r) ∧ Aside0 (kq ≤ k) ∧ Aside0 (Below w.heap.size w w'))
  case atStart => exact ⟨(wrap64 ((ji3) - 1)), (by first | rfl | (simp; done) | (simp only [← hji3] <;> (first | rfl | simp)) | (simp [*]; done)), H', ⟨Nat.le_refl _⟩, ⟨bl_⟩⟩
  case round =>
    clear H'
    (try clear c1); (try clear p2)
    obtain ⟨x5_1, rfl, HA, HK1, HB⟩ := hrel
    cases gk with
    | zero => exact absurd HA.out (by simp [astrolaberef01_Cmp.l0])
    | succ k1 =>
      have H := HA.out
      clear HA
      simp only [astrolaberef01_Cmp.l0] at H
      by_cases c4 : x5_1 ≥ 0
      · rw [if_pos c4] at H
        have c4b0 : decide (0 ≤ x5_1) = true := decide_eq_true c4
        clear c4
        replace H := Option.bind_eq_some_iff.mp H
        obtain ⟨t458, A50, H⟩ := H
        (try dsimp only at H)
        have A5 := A0_ A50
        clear A50
        replace H := Option.bind_eq_some_iff.mp H
        obtain ⟨t459, A60, H⟩ := H
        (try dsimp only at H)
        have A6 := A0_ A60
        clear A60
        by_cases c7 : t458 < t459
        · rw [if_pos c7] at H
          have c7b0 : decide (t458 < t459) = true := decide_eq_true c7
          clear c7
          obtain rfl := Option.some.inj H
          go_wp2_with (first | ((with_reducible refine gate_callee (f := 50) rfl ?_); refine goesM_ (some 18) Try.func50 #[.slice A0 l0.length c0, .int .i64 x5_1] rfl ?_; (with_reducible refine (astrolaberef01_at.calls _ _ l0 x5_1 t458 _ ?side1 ?side2 A5.out).mono ?_); (case side1 => exact mvC (Kd.C_below HR0.out HB.out)); (case side2 => exact HC0.out); rintro e w' ⟨rfl, ⟨nd, rfl⟩⟩; refine ⟨_, rfl, ?_⟩) | ((with_reducible refine gate_callee (f := 50) rfl ?_); refine goesM_ (some 21) Try.func50 #[.slice A1 l1.length c1, .int .i64 x5_1] rfl ?_; (with_reducible refine (astrolaberef01_at.calls _ _ l1 x5_1 t459 _ ?side1 ?side2 A6.out).mono ?_); (case side1 => exact mvC (Kd.C_below HR1.out bl_)); (case side2 => exact HC1.out); rintro e w' ⟨rfl, ⟨nd, rfl⟩⟩; refine ⟨_, rfl, ?_⟩))
          go_ret
          exact ⟨by first | rfl | (simp [errW_none, errW_some] <;> rfl) | (simp only [← hji3]; first | rfl | (simp [errW_none, errW_some] <;> rfl)) | (simp [*, errW_none, errW_some] <;> rfl), bl_⟩
        · rw [if_neg c7] at H
          have c7b0 : decide (t458 < t459) = false := decide_eq_false c7
          clear c7
          replace H := Option.bind_eq_some_iff.mp H
          obtain ⟨t460, A80, H⟩ := H
          (try dsimp only at H)
          have A8 := A0_ A80
          clear A80
          obtain rfl : t458 = t460 := Option.some.inj (A5.out.symm.trans A8.out)
          replace H := Option.bind_eq_some_iff.mp H
          obtain ⟨t461, A90, H⟩ := H
          (try dsimp only at H)
          have A9 := A0_ A90
          clear A90
          obtain rfl : t459 = t461 := Option.some.inj (A6.out.symm.trans A9.out)
          by_cases c10 : t458 > t459
          · rw [if_pos c10] at H
            have c10b0 : decide (t459 < t458) = true := decide_eq_true c10
            clear c10
            obtain rfl := Option.some.inj H
            go_wp2_with (first | ((with_reducible refine gate_callee (f := 50) rfl ?_); refine goesM_ (some 18) Try.func50 #[.slice A0 l0.length c0, .int .i64 x5_1] rfl ?_; (with_reducible refine (astrolaberef01_at.calls _ _ l0 x5_1 t458 _ ?side1 ?side2 A5.out).mono ?_); (case side1 => exact mvC (Kd.C_below HR0.out HB.out)); (case side2 => exact HC0.out); rintro e w' ⟨rfl, ⟨nd, rfl⟩⟩; refine ⟨_, rfl, ?_⟩) | ((with_reducible refine gate_callee (f := 50) rfl ?_); refine goesM_ (some 21) Try.func50 #[.slice A1 l1.length c1, .int .i64 x5_1] rfl ?_; (with_reducible refine (astrolaberef01_at.calls _ _ l1 x5_1 t459 _ ?side1 ?side2 A6.out).mono ?_); (case side1 => exact mvC (Kd.C_below HR1.out bl_)); (case side2 => exact HC1.out); rintro e w' ⟨rfl, ⟨nd, rfl⟩⟩; refine ⟨_, rfl, ?_⟩) | ((with_reducible refine gate_callee (f := 50) rfl ?_); refine goesM_ (some 25) Try.func50 #[.slice A0 l0.length c0, .int .i64 x5_1] rfl ?_; (with_reducible refine (astrolaberef01_at.calls _ _ l0 x5_1 t458 _ ?side1 ?side2 A8.out).mono ?_); (case side1 => exact mvC (Kd.C_below HR0.out bl_)); (case side2 => exact HC0.out); rintro e w' ⟨rfl, ⟨nd, rfl⟩⟩; refine ⟨_, rfl, ?_⟩) | ((with_reducible refine gate_callee (f := 50) rfl ?_); refine goesM_ (some 28) Try.func50 #[.slice A1 l1.length c1, .int .i64 x5_1] rfl ?_; (with_reducible refine (astrolaberef01_at.calls _ _ l1 x5_1 t459 _ ?side1 ?side2 A9.out).mono ?_); (case side1 => exact mvC (Kd.C_below HR1.out bl_)); (case side2 => exact HC1.out); rintro e w' ⟨rfl, ⟨nd, rfl⟩⟩; refine ⟨_, rfl, ?_⟩))
            go_ret
            exact ⟨by first | rfl | (simp [errW_none, errW_some] <;> rfl) | (simp only [← hji3]; first | rfl | (simp [errW_none, errW_some] <;> rfl)) | (simp [*, errW_none, errW_some] <;> rfl), bl_⟩
          · rw [if_neg c10] at H
            have c10b0 : decide (t459 < t458) = false := decide_eq_false c10
            clear c10
            have H' := A0_ H
            clear H
            go_wp2_with (first | ((with_reducible refine gate_callee (f := 50) rfl ?_); refine goesM_ (some 18) Try.func50 #[.slice A0 l0.length c0, .int .i64 x5_1] rfl ?_; (with_reducible refine (astrolaberef01_at.calls _ _ l0 x5_1 t458 _ ?side1 ?side2 A5.out).mono ?_); (case side1 => exact mvC (Kd.C_below HR0.out HB.out)); (case side2 => exact HC0.out); rintro e w' ⟨rfl, ⟨nd, rfl⟩⟩; refine ⟨_, rfl, ?_⟩) | ((with_reducible refine gate_callee (f := 50) rfl ?_); refine goesM_ (some 21) Try.func50 #[.slice A1 l1.length c1, .int .i64 x5_1] rfl ?_; (with_reducible refine (astrolaberef01_at.calls _ _ l1 x5_1 t459 _ ?side1 ?side2 A6.out).mono ?_); (case side1 => exact mvC (Kd.C_below HR1.out bl_)); (case side2 => exact HC1.out); rintro e w' ⟨rfl, ⟨nd, rfl⟩⟩; refine ⟨_, rfl, ?_⟩) | ((with_reducible refine gate_callee (f := 50) rfl ?_); refine goesM_ (some 25) Try.func50 #[.slice A0 l0.length c0, .int .i64 x5_1] rfl ?_; (with_reducible refine (astrolaberef01_at.calls _ _ l0 x5_1 t458 _ ?side1 ?side2 A8.out).mono ?_); (case side1 => exact mvC (Kd.C_below HR0.out bl_)); (case side2 => exact HC0.out); rintro e w' ⟨rfl, ⟨nd, rfl⟩⟩; refine ⟨_, rfl, ?_⟩) | ((with_reducible refine gate_callee (f := 50) rfl ?_); refine goesM_ (some 28) Try.func50 #[.slice A1 l1.length c1, .int .i64 x5_1] rfl ?_; (with_reducible refine (astrolaberef01_at.calls _ _ l1 x5_1 t459 _ ?side1 ?side2 A9.out).mono ?_); (case side1 => exact mvC (Kd.C_below HR1.out bl_)); (case side2 => exact HC1.out); rintro e w' ⟨rfl, ⟨nd, rfl⟩⟩; refine ⟨_, rfl, ?_⟩))
            go_roundg k1
            case measure => have := HK1.out; omega
            case rel => exact ⟨(wrap64 (x5_1 - 1)), rs_, H', ⟨by have := HK1.out; omega⟩, ⟨bl_⟩⟩
      · rw [if_neg c4] at H
        have c4b0 : decide (0 ≤ x5_1) = false := decide_eq_false c4
        clear c4
        obtain rfl := Option.some.inj H
        go_wp2
        go_ret
        exact ⟨by first | rfl | (simp [errW_none, errW_some] <;> rfl) | (simp only [← hji3]; first | rfl | (simp [errW_none, errW_some] <;> rfl)) | (simp [*, errW_none, errW_some] <;> rfl), bl_⟩

/-! ### astrolaberef01_Sub: function 34 -/
def astrolaberef01_Sub.l0 : Nat → List Int → List Int → List Int → Int → Int → Option (List Int × Bool)
  | 0, _, _, _, _, _ => none
  | k + 1, x0, x1, x6, x7, x8 => if x8 < (x0.length : Int) then ((astrolaberef01_at.f x0 x8).bind fun t463 => ((astrolaberef01_at.f x1 x8).bind fun t464 => (if x6.length < 35184372088832 then (astrolaberef01_Sub.l0 k x0 x1 (x6 ++ [(IntKind.u64.wrap ((IntKind.u64.wrap ((IntKind.u64.wrap (t463 + 4294967296)) - t464)) - x7)) % 4294967296]) (IntKind.u64.wrap (1 - ((IntKind.u64.wrap ((IntKind.u64.wrap ((IntKind.u64.wrap (t463 + 4294967296)) - t464)) - x7)) / 4294967296))) (wrap64 (x8 + 1))) else (none)))) else ((astrolaberef01_Trim.f k x6).bind fun t468 => (some (t468, true)))
def astrolaberef01_Sub.f (k : Nat) (l0 : List Int) (l1 : List Int) : Option (List Int × Bool) := (astrolaberef01_Cmp.f k l0 l1).bind fun t462 => (if t462 < 0 then (some (([] : List Int), false)) else (astrolaberef01_Sub.l0 k l0 l1 ([] : List Int) 0 0))
theorem astrolaberef01_Sub.mono_l : ∀ k, (∀ y0 y1 y2 y3 y4, LeO (astrolaberef01_Sub.l0 k y0 y1 y2 y3 y4) (astrolaberef01_Sub.l0 (k + 1) y0 y1 y2 y3 y4))
  | 0 => fun _ _ _ _ _ r h => by simp [astrolaberef01_Sub.l0] at h
  | k + 1 => by
    have ih0 := astrolaberef01_Sub.mono_l k
    · intro y0 y1 y2 y3 y4
      unfold astrolaberef01_Sub.l0
      repeat' first
      | (with_reducible exact ih0 _ _ _ _ _)
      | (with_reducible exact astrolaberef01_Cmp.mono _ _ _)
      | (with_reducible exact astrolaberef01_Trim.mono _ _)
      | (with_reducible exact LeO.refl _)
      | (with_reducible exact LeO.none _)
      | (with_reducible refine LeO.ite ?_ ?_)
      | (with_reducible refine LeO.bind ?_ (fun _ => ?_))
      | exact ih0 _ _ _ _ _
      | exact astrolaberef01_Cmp.mono _ _ _
      | exact astrolaberef01_Trim.mono _ _
      | exact LeO.none _
      | refine LeO.ite ?_ ?_
      | refine LeO.bind ?_ (fun _ => ?_)
theorem astrolaberef01_Sub.mono : ∀ a0 a1 k, LeO (astrolaberef01_Sub.f k a0 a1) (astrolaberef01_Sub.f (k + 1) a0 a1) := by
  intro a0 a1 k
  have ih0 := astrolaberef01_Sub.mono_l k
  unfold astrolaberef01_Sub.f
  repeat' first
      | (with_reducible exact ih0 _ _ _ _ _)
      | (with_reducible exact astrolaberef01_Cmp.mono _ _ _)
      | (with_reducible exact astrolaberef01_Trim.mono _ _)
      | (with_reducible exact LeO.refl _)
      | (with_reducible exact LeO.none _)
      | (with_reducible refine LeO.ite ?_ ?_)
      | (with_reducible refine LeO.bind ?_ (fun _ => ?_))
      | exact ih0 _ _ _ _ _
      | exact astrolaberef01_Cmp.mono _ _ _
      | exact astrolaberef01_Trim.mono _ _
      | exact LeO.none _
      | refine LeO.ite ?_ ?_
      | refine LeO.bind ?_ (fun _ => ?_)
set_option maxHeartbeats 8000000 in
set_option maxRecDepth 100000 in
theorem astrolaberef01_Sub.calls (k : Nat) (A0 : Option Addr) (c0 : Nat) (l0 : List Int) (A1 : Option Addr) (c1 : Nat) (l1 : List Int) (r1 : List Int) (r2 : Bool) (w : World) (hr0 : Kd.C (Kd.int .u32) w A0 l0.length l0) (hc0 : l0.length ≤ c0) (hr1 : Kd.C (Kd.int .u32) w A1 l1.length l1) (hc1 : l1.length ≤ c1) (h : astrolaberef01_Sub.f k l0 l1 = some (r1, r2)) :
    Calls Try.prog 34 #[.slice A0 l0.length c0, .slice A1 l1.length c1] w fun e w' => ∃ v0_ : Value, e = .returned (.tuple #[v0_, .bool r2]) ∧ Kd.R (Kd.int .u32) 37 w' w.heap.size (fun _ => True) v0_ r1 ∧ Below w.heap.size w w' := by
  have HR0 := A0_ hr0
  have HC0 := A0_ hc0
  clear hr0 hc0
  have HR1 := A0_ hr1
  have HC1 := A0_ hc1
  clear hr1 hc1
  have HB := A0_ (Below.refl w.heap.size w)
  have H : ((astrolaberef01_Cmp.f k l0 l1).bind fun t462 => (if t462 < 0 then (some (([] : List Int), false)) else (astrolaberef01_Sub.l0 k l0 l1 ([] : List Int) 0 0))) = some (r1, r2) := h
  clear h
  replace H := Option.bind_eq_some_iff.mp H
  obtain ⟨t462, A30, H⟩ := H
  (try dsimp only at H)
  have A3 := A0_ A30
  clear A30
  by_cases c4 : t462 < 0
  · rw [if_pos c4] at H
    have c4b0 : decide (t462 < 0) = true := decide_eq_true c4
    clear c4
    simp only [Option.some.injEq, Prod.mk.injEq] at H
    obtain ⟨rfl, rfl⟩ := H
    go_enter Try.func34, Try.ntmps34
    go_wp2_with (first | ((with_reducible refine gate_callee (f := 49) rfl ?_); refine goesM_ (some 12) Try.func49 #[.slice A0 l0.length c0, .slice A1 l1.length c1] rfl ?_; (with_reducible refine (astrolaberef01_Cmp.calls k _ _ l0 _ _ l1 t462 _ ?side1 ?side2 ?side3 ?side4 A3.out).mono ?_); (case side1 => exact mvC HR0.out); (case side2 => exact HC0.out); (case side3 => exact mvC HR1.out); (case side4 => exact HC1.out); rintro e w5 ⟨rfl, hb⟩; refine ⟨_, rfl, ?_⟩; have n0_ := A0_ (below_step bl_ hb); clear HB; have HB := n0_; clear n0_; (try clear hb); (try clear hb2); (try clear hk); (try clear hi)))
    go_ret2
    exact ⟨(.slice none 0 0), by first | rfl | (simp [errW_none, errW_some] <;> rfl) | (simp [*, errW_none, errW_some] <;> rfl), by first | exact Kd.R_nil _ _ _ _ _ | exact Kd.N_nil _ _ _ _ _ | exact Kd.V_nil _ _ _ _ _ | exact Kd.Q_nil _ _ _ _ _ | exact Kd.S_nil _ _ _ _ _, bl_⟩
  · rw [if_neg c4] at H
    have c4b0 : decide (t462 < 0) = false := decide_eq_false c4
    clear c4
    have H' := A0_ H
    clear H
    go_enter Try.func34, Try.ntmps34
    go_wp2_with (first | ((with_reducible refine gate_callee (f := 49) rfl ?_); refine goesM_ (some 12) Try.func49 #[.slice A0 l0.length c0, .slice A1 l1.length c1] rfl ?_; (with_reducible refine (astrolaberef01_Cmp.calls k _ _ l0 _ _ l1 t462 _ ?side1 ?side2 ?side3 ?side4 A3.out).mono ?_); (case side1 => exact mvC HR0.out); (case side2 => exact HC0.out); (case side3 => exact mvC HR1.out); (case side4 => exact HC1.out); rintro e w6 ⟨rfl, hb⟩; refine ⟨_, rfl, ?_⟩; have n0_ := A0_ (below_step bl_ hb); clear HB; have HB := n0_; clear n0_; (try clear hb); (try clear hb2); (try clear hk); (try clear hi)))
    go_loopg [6, 7, 8] k (fun kq v6 v7 v8 w' => ∃ (x6_1 : List Int) (x7_1 : Int) (x8_1 : Int), v7 = .int .u64 x7_1 ∧ v8 = .int .i64 x8_1 ∧ Aside0 (astrolaberef01_Sub.l0 kq l0 l1 x6_1 x7_1 x8_1 = some (r1, r2)) ∧ Aside0 (kq ≤ k) ∧ Aside0 (Kd.R (Kd.int .u32) 37 w' w.heap.size (fun _ => True) v6 x6_1) ∧ Aside0 (Below w.heap.size w w'))
    case atStart => exact ⟨(([] : List Int)), (0), (0), rs_, rs_, H', ⟨Nat.le_refl _⟩, ⟨by first | exact Kd.R_nil _ _ _ _ _ | exact Kd.N_nil _ _ _ _ _ | exact Kd.V_nil _ _ _ _ _ | exact Kd.Q_nil _ _ _ _ _ | exact Kd.S_nil _ _ _ _ _⟩, ⟨bl_⟩⟩
    case round =>
      clear H'
      (try clear c1); (try clear p2); (try clear c3); (try clear c4); (try clear c4b0)
      obtain ⟨x6_1, x7_1, x8_1, rfl, rfl, HA, HK1, HO_6, HB⟩ := hrel
      cases gk with
      | zero => exact absurd HA.out (by simp [astrolaberef01_Sub.l0])
      | succ k1 =>
        have H := HA.out
        clear HA
        simp only [astrolaberef01_Sub.l0] at H
        by_cases c7 : x8_1 < (l0.length : Int)
        · rw [if_pos c7] at H
          have c7b0 : decide (x8_1 < (l0.length : Int)) = true := decide_eq_true c7
          clear c7
          replace H := Option.bind_eq_some_iff.mp H
          obtain ⟨t463, A80, H⟩ := H
          (try dsimp only at H)
          have A8 := A0_ A80
          clear A80
          replace H := Option.bind_eq_some_iff.mp H
          obtain ⟨t464, A90, H⟩ := H
          (try dsimp only at H)
          have A9 := A0_ A90
          clear A90
          by_cases c10 : x6_1.length < 35184372088832
          case neg => rw [if_neg c10] at H; exact absurd H (by simp)
          rw [if_pos c10] at H
          have LMc10 := A0_ c10
          clear c10
          obtain ⟨y465, hy465⟩ : ∃ y_ : List Int, y_ = (x6_1 ++ [(IntKind.u64.wrap ((IntKind.u64.wrap ((IntKind.u64.wrap (t463 + 4294967296)) - t464)) - x7_1)) % 4294967296]) := ⟨_, rfl⟩
          replace H : (astrolaberef01_Sub.l0 k1 l0 l1 y465 (IntKind.u64.wrap (1 - ((IntKind.u64.wrap ((IntKind.u64.wrap ((IntKind.u64.wrap (t463 + 4294967296)) - t464)) - x7_1)) / 4294967296))) (wrap64 (x8_1 + 1))) = some (r1, r2) := by first | (rw [hy465]; with_reducible exact H) | (rw [hy465]; exact H) | exact H
          have Ny465 := A0_ hy465
          clear hy465
          have H' := A0_ H
          clear H
          go_wp2_with (first | ((with_reducible refine gate_callee (f := 50) rfl ?_); refine goesM_ (some 22) Try.func50 #[.slice A0 l0.length c0, .int .i64 x8_1] rfl ?_; (with_reducible refine (astrolaberef01_at.calls _ _ l0 x8_1 t463 _ ?side1 ?side2 A8.out).mono ?_); (case side1 => exact mvC (Kd.C_below HR0.out HB.out)); (case side2 => exact HC0.out); rintro e w' ⟨rfl, ⟨nd, rfl⟩⟩; refine ⟨_, rfl, ?_⟩) | ((with_reducible refine gate_callee (f := 50) rfl ?_); refine goesM_ (some 26) Try.func50 #[.slice A1 l1.length c1, .int .i64 x8_1] rfl ?_; (with_reducible refine (astrolaberef01_at.calls _ _ l1 x8_1 t464 _ ?side1 ?side2 A9.out).mono ?_); (case side1 => exact mvC (Kd.C_below HR1.out bl_)); (case side2 => exact HC1.out); rintro e w' ⟨rfl, ⟨nd, rfl⟩⟩; refine ⟨_, rfl, ?_⟩) | ((with_reducible refine gate_builtin (b := .append) (xs := #[.tmp 30, .tmp 33]) rfl ?_); at_builtin; refine Kd.R_append (Kd.int .u32) (w0 := w) w.heap.size rfl (.tmp 30) (.tmp 33) 22 37 (.int .u32 0) 4 rfl Try.underlying22 info37 rfl (by decide) (by omega) u6 x6_1 ((IntKind.u64.wrap ((IntKind.u64.wrap ((IntKind.u64.wrap (t463 + 4294967296)) - t464)) - x7_1)) % 4294967296) [.int .u32 ((IntKind.u64.wrap ((IntKind.u64.wrap ((IntKind.u64.wrap (t463 + 4294967296)) - t464)) - x7_1)) % 4294967296)] (fun _ => True) (fun _ => False) rfl rfl ?aP (fun _ hk => hk.elim) ?aF ?aO ?aB ?aS ?aL ?_; (case aP => exact rfl); (case aB => exact bl_); (case aF => exact (fun _ _ => trivial)); (case aO => exact (mvR HO_6.out)); (case aS => exact (below_size bl_)); (case aL => have := LMc10.out; omega); intro v466 w11 ho hb hg hat; rw [← Ny465.out] at ho; have n0_ := A0_ (hb); have n1_ := A0_ (ho); clear HB; clear HO_6; have HB := n0_; have HO467 := n1_; clear n0_ n1_; clear ho hb hg hat))
          go_roundg k1
          case measure => have := HK1.out; omega
          case rel => exact ⟨(y465), (IntKind.u64.wrap (1 - ((IntKind.u64.wrap ((IntKind.u64.wrap ((IntKind.u64.wrap (t463 + 4294967296)) - t464)) - x7_1)) / 4294967296))), (wrap64 (x8_1 + 1)), rs_, rs_, H', ⟨by have := HK1.out; omega⟩, ⟨mvR HO467.out⟩, ⟨bl_⟩⟩
        · rw [if_neg c7] at H
          have c7b0 : decide (x8_1 < (l0.length : Int)) = false := decide_eq_false c7
          clear c7
          replace H := Option.bind_eq_some_iff.mp H
          obtain ⟨t468, A120, H⟩ := H
          (try dsimp only at H)
          have A12 := A0_ A120
          clear A120
          simp only [Option.some.injEq, Prod.mk.injEq] at H
          obtain ⟨rfl, rfl⟩ := H
          obtain ⟨Ao13, co13, eo13⟩ := Kd.R_slice HO_6.out
          subst eo13
          go_wp2_with (first | ((with_reducible refine gate_callee (f := 29) rfl ?_); refine goesM_ (some 39) Try.func29 #[.slice Ao13 x6_1.length co13] rfl ?_; (with_reducible refine (astrolaberef01_Trim.calls k1 _ _ x6_1 t468 _ ?side1 ?side2 A12.out).mono ?_); (case side1 => exact mvC (Kd.R_reads' HO_6.out).2.2); (case side2 => exact (Kd.R_reads' HO_6.out).2.1); rintro e w14 ⟨v469, rfl, ho0, hb⟩; refine ⟨_, rfl, ?_⟩; have n0_ := A0_ (Kd.R_elder' (mvR HO_6.out) (Kd.R_base ho0) hb); have n1_ := A0_ (Kd.R_lower (Kd.R_new' ho0 (Kd.R_lt (mvR HO_6.out))) (below_size bl_)); have n2_ := A0_ (below_step bl_ hb); clear HO_6; clear HB; have HO_6 := n0_; have HO470 := n1_; have HB := n2_; clear n0_ n1_ n2_; (try clear hb); (try clear hb2); (try clear hk); (try clear hi); (try clear ho0)))
          go_ret2
          exact ⟨_, by first | rfl | (simp [errW_none, errW_some] <;> rfl) | (simp [*, errW_none, errW_some] <;> rfl), mvR (Kd.R_mono HO470.out (fun _ hk => trivial)), bl_⟩

/-! ### astrolaberef01_Mul: function 35 -/
mutual
def astrolaberef01_Mul.l0 : Nat → List Int → List Int → List Int → Int → Option (List Int)
  | 0, _, _, _, _ => none
  | k + 1, x0, x1, x5, x6 => if x6 < (x0.length : Int) then (astrolaberef01_Mul.l1 k x0 x1 x5 x6 0 0) else ((astrolaberef01_Trim.f k x5).bind fun t474 => (some t474))
def astrolaberef01_Mul.l1 : Nat → List Int → List Int → List Int → Int → Int → Int → Option (List Int)
  | 0, _, _, _, _, _, _ => none
  | k + 1, x0, x1, x5, x6, x7, x8 => if x8 < (x1.length : Int) then (if 0 ≤ x6 then (if x6 < (x0.length : Int) then (if 0 ≤ x8 then (if 0 ≤ (wrap64 (x6 + x8)) then (if (wrap64 (x6 + x8)) < (x5.length : Int) then (astrolaberef01_Mul.l1 k x0 x1 (x5.set ((wrap64 (x6 + x8)) : Int).toNat ((IntKind.u64.wrap ((IntKind.u64.wrap ((IntKind.u64.wrap ((IntKind.u64.wrap (rd x0 x6)) * (IntKind.u64.wrap (rd x1 x8)))) + (IntKind.u64.wrap (rd x5 (wrap64 (x6 + x8)))))) + x7)) % 4294967296)) x6 ((IntKind.u64.wrap ((IntKind.u64.wrap ((IntKind.u64.wrap ((IntKind.u64.wrap (rd x0 x6)) * (IntKind.u64.wrap (rd x1 x8)))) + (IntKind.u64.wrap (rd x5 (wrap64 (x6 + x8)))))) + x7)) / 4294967296) (wrap64 (x8 + 1))) else (none)) else (none)) else (none)) else (none)) else (none)) else (if 0 ≤ (wrap64 (x6 + (x1.length : Int))) then (if (wrap64 (x6 + (x1.length : Int))) < (x5.length : Int) then (astrolaberef01_Mul.l0 k x0 x1 (x5.set ((wrap64 (x6 + (x1.length : Int))) : Int).toNat ((x7) % 4294967296)) (wrap64 (x6 + 1))) else (none)) else (none))
end
def astrolaberef01_Mul.f (k : Nat) (l0 : List Int) (l1 : List Int) : Option (List Int) := if 0 ≤ (wrap64 ((l0.length : Int) + (l1.length : Int))) then (if (wrap64 ((l0.length : Int) + (l1.length : Int)) : Int).toNat ≤ 70368744177664 then (astrolaberef01_Mul.l0 k l0 l1 (List.replicate (wrap64 ((l0.length : Int) + (l1.length : Int)) : Int).toNat 0) 0) else (none)) else (none)
theorem astrolaberef01_Mul.mono_l : ∀ k, (∀ y0 y1 y2 y3, LeO (astrolaberef01_Mul.l0 k y0 y1 y2 y3) (astrolaberef01_Mul.l0 (k + 1) y0 y1 y2 y3)) ∧ (∀ y0 y1 y2 y3 y4 y5, LeO (astrolaberef01_Mul.l1 k y0 y1 y2 y3 y4 y5) (astrolaberef01_Mul.l1 (k + 1) y0 y1 y2 y3 y4 y5))
  | 0 => ⟨fun _ _ _ _ r h => by simp [astrolaberef01_Mul.l0] at h, fun _ _ _ _ _ _ r h => by simp [astrolaberef01_Mul.l1] at h⟩
  | k + 1 => by
    obtain ⟨ih0, ih1⟩ := astrolaberef01_Mul.mono_l k
    refine ⟨?_, ?_⟩
    · intro y0 y1 y2 y3
      unfold astrolaberef01_Mul.l0
      repeat' first
      | (with_reducible exact ih0 _ _ _ _)
      | (with_reducible exact ih1 _ _ _ _ _ _)
      | (with_reducible exact astrolaberef01_Trim.mono _ _)
      | (with_reducible exact LeO.refl _)
      | (with_reducible exact LeO.none _)
      | (with_reducible refine LeO.ite ?_ ?_)
      | (with_reducible refine LeO.bind ?_ (fun _ => ?_))
      | exact ih0 _ _ _ _
      | exact ih1 _ _ _ _ _ _
      | exact astrolaberef01_Trim.mono _ _
      | exact LeO.none _
      | refine LeO.ite ?_ ?_
      | refine LeO.bind ?_ (fun _ => ?_)
    · intro y0 y1 y2 y3 y4 y5
      unfold astrolaberef01_Mul.l1
      repeat' first
      | (with_reducible exact ih0 _ _ _ _)
      | (with_reducible exact ih1 _ _ _ _ _ _)
      | (with_reducible exact astrolaberef01_Trim.mono _ _)
      | (with_reducible exact LeO.refl _)
      | (with_reducible exact LeO.none _)
      | (with_reducible refine LeO.ite ?_ ?_)
      | (with_reducible refine LeO.bind ?_ (fun _ => ?_))
      | exact ih0 _ _ _ _
      | exact ih1 _ _ _ _ _ _
      | exact astrolaberef01_Trim.mono _ _
      | exact LeO.none _
      | refine LeO.ite ?_ ?_
      | refine LeO.bind ?_ (fun _ => ?_)
theorem astrolaberef01_Mul.mono : ∀ a0 a1 k, LeO (astrolaberef01_Mul.f k a0 a1) (astrolaberef01_Mul.f (k + 1) a0 a1) := by
  intro a0 a1 k
  obtain ⟨ih0, ih1⟩ := astrolaberef01_Mul.mono_l k
  unfold astrolaberef01_Mul.f
  repeat' first
      | (with_reducible exact ih0 _ _ _ _)
      | (with_reducible exact ih1 _ _ _ _ _ _)
      | (with_reducible exact astrolaberef01_Trim.mono _ _)
      | (with_reducible exact LeO.refl _)
      | (with_reducible exact LeO.none _)
      | (with_reducible refine LeO.ite ?_ ?_)
      | (with_reducible refine LeO.bind ?_ (fun _ => ?_))
      | exact ih0 _ _ _ _
      | exact ih1 _ _ _ _ _ _
      | exact astrolaberef01_Trim.mono _ _
      | exact LeO.none _
      | refine LeO.ite ?_ ?_
      | refine LeO.bind ?_ (fun _ => ?_)
set_option maxHeartbeats 8000000 in
set_option maxRecDepth 100000 in
theorem astrolaberef01_Mul.calls (k : Nat) (A0 : Option Addr) (c0 : Nat) (l0 : List Int) (A1 : Option Addr) (c1 : Nat) (l1 : List Int) (r : List Int) (w : World) (hr0 : Kd.C (Kd.int .u32) w A0 l0.length l0) (hc0 : l0.length ≤ c0) (hr1 : Kd.C (Kd.int .u32) w A1 l1.length l1) (hc1 : l1.length ≤ c1) (h : astrolaberef01_Mul.f k l0 l1 = some r) :
    Calls Try.prog 35 #[.slice A0 l0.length c0, .slice A1 l1.length c1] w fun e w' => ∃ v0_ : Value, e = .returned (v0_) ∧ Kd.R (Kd.int .u32) 37 w' w.heap.size (fun _ => True) v0_ r ∧ Below w.heap.size w w' := by
  have HR0 := A0_ hr0
  have HC0 := A0_ hc0
  clear hr0 hc0
  have HR1 := A0_ hr1
  have HC1 := A0_ hc1
  clear hr1 hc1
  have HB := A0_ (Below.refl w.heap.size w)
  have H : (if 0 ≤ (wrap64 ((l0.length : Int) + (l1.length : Int))) then (if (wrap64 ((l0.length : Int) + (l1.length : Int)) : Int).toNat ≤ 70368744177664 then (astrolaberef01_Mul.l0 k l0 l1 (List.replicate (wrap64 ((l0.length : Int) + (l1.length : Int)) : Int).toNat 0) 0) else (none)) else (none)) = some r := h
  clear h
  obtain ⟨ji3, hji3⟩ : ∃ j_ : Int, (wrap64 ((l0.length : Int) + (l1.length : Int))) = j_ := ⟨_, rfl⟩
  (first | rw [hji3] at H | simp only [hji3] at H)
  have hji3w : (IntKind.i64.wrap ((l0.length : Int) + (l1.length : Int))) = ji3 := (i64_w _).trans hji3
  by_cases c4 : 0 ≤ (ji3)
  case neg => rw [if_neg c4] at H; exact absurd H (by simp)
  rw [if_pos c4] at H
  have c4b0 := eq_true c4
  have c4b1 : decide (0 ≤ (ji3)) = true := decide_eq_true c4
  clear c4
  by_cases c5 : (ji3 : Int).toNat ≤ 70368744177664
  case neg => rw [if_neg c5] at H; exact absurd H (by simp)
  rw [if_pos c5] at H
  have c5b0 := eq_true c5
  have c5b1 : decide ((ji3 : Int).toNat ≤ 70368744177664) = true := decide_eq_true c5
  clear c5
  obtain ⟨y471, hy471⟩ : ∃ y_ : List Int, y_ = (List.replicate (ji3 : Int).toNat 0) := ⟨_, rfl⟩
  replace H : (astrolaberef01_Mul.l0 k l0 l1 y471 0) = some r := by first | (rw [hy471]; with_reducible exact H) | (rw [hy471]; exact H) | exact H
  have Ny471 := A0_ hy471
  clear hy471
  have H' := A0_ H
  clear H
  go_enter Try.func35, Try.ntmps35
  go_wp2_with (first | ((with_reducible refine gate_dst (N := 15) rfl ?_); refine Kd.R_make (Kd.int .u32) _ 37 rfl (N := 15) rfl 22 _ _ rfl ji3 rfl rfl Try.underlying22 (.int .u32 0) 4 info37 rfl (by decide) (by omega) 0 (ok := fun _ => True) (okp := fun _ => True) rfl (fun _ hk => hk) trivial od_ (Nat.le_trans (Nat.mul_le_mul_right _ (od_ : ji3.toNat ≤ 70368744177664)) (by omega)) (Below.refl _ _) (Nat.le_refl _) ?_; intro v472 w6 ho7 hb hg_ hnew_; clear hg_ hnew_; (first | rw [← Ny471.out] at ho7 | (simp only [Int.reduceToNat] at ho7; rw [← Ny471.out] at ho7)); have n0_ := A0_ (Kd.R_lower ho7 (below_size bl_)); have n1_ := A0_ (below_step bl_ hb); clear HB; have HO473 := n0_; have HB := n1_; clear n0_ n1_; clear hb ho7))
  repeat (go_quiet (first | ((with_reducible refine gate_dst (N := 15) rfl ?_); refine Kd.R_make (Kd.int .u32) _ 37 rfl (N := 15) rfl 22 _ _ rfl ji3 rfl rfl Try.underlying22 (.int .u32 0) 4 info37 rfl (by decide) (by omega) 0 (ok := fun _ => True) (okp := fun _ => True) rfl (fun _ hk => hk) trivial od_ (Nat.le_trans (Nat.mul_le_mul_right _ (od_ : ji3.toNat ≤ 70368744177664)) (by omega)) (Below.refl _ _) (Nat.le_refl _) ?_; intro v472 w6 ho7 hb hg_ hnew_; clear hg_ hnew_; (first | rw [← Ny471.out] at ho7 | (simp only [Int.reduceToNat] at ho7; rw [← Ny471.out] at ho7)); have n0_ := A0_ (Kd.R_lower ho7 (below_size bl_)); have n1_ := A0_ (below_step bl_ hb); clear HB; have HO473 := n0_; have HB := n1_; clear n0_ n1_; clear hb ho7)); try go_wp2_with (first | ((with_reducible refine gate_dst (N := 15) rfl ?_); refine Kd.R_make (Kd.int .u32) _ 37 rfl (N := 15) rfl 22 _ _ rfl ji3 rfl rfl Try.underlying22 (.int .u32 0) 4 info37 rfl (by decide) (by omega) 0 (ok := fun _ => True) (okp := fun _ => True) rfl (fun _ hk => hk) trivial od_ (Nat.le_trans (Nat.mul_le_mul_right _ (od_ : ji3.toNat ≤ 70368744177664)) (by omega)) (Below.refl _ _) (Nat.le_refl _) ?_; intro v472 w6 ho7 hb hg_ hnew_; clear hg_ hnew_; (first | rw [← Ny471.out] at ho7 | (simp only [Int.reduceToNat] at ho7; rw [← Ny471.out] at ho7)); have n0_ := A0_ (Kd.R_lower ho7 (below_size bl_)); have n1_ := A0_ (below_step bl_ hb); clear HB; have HO473 := n0_; have HB := n1_; clear n0_ n1_; clear hb ho7)))
  go_loopg [6] k (fun kq v6 w' => ∃ (x5_1 : List Int) (x6_1 : Int), v6 = .int .i64 x6_1 ∧ Aside0 (astrolaberef01_Mul.l0 kq l0 l1 x5_1 x6_1 = some r) ∧ Aside0 (kq ≤ k) ∧ Aside0 (Kd.R (Kd.int .u32) 37 w' w.heap.size (fun _ => True) v472 x5_1) ∧ Aside0 (Below w.heap.size w w'))
  case atStart => exact ⟨(y471), (0), rs_, H', ⟨Nat.le_refl _⟩, ⟨mvR HO473.out⟩, ⟨bl_⟩⟩
  case round =>
    clear H'
    (try clear c1); (try clear p2); (try clear c3); (try clear c4); (try clear c4b0); (try clear c4b1); (try clear c5); (try clear c5b0); (try clear c5b1); (try clear p6)
    obtain ⟨x5_1, x6_1, rfl, HA, HK1, HO_5, HB⟩ := hrel
    cases gk with
    | zero => exact absurd HA.out (by simp [astrolaberef01_Mul.l0])
    | succ k1 =>
      have H := HA.out
      clear HA
      simp only [astrolaberef01_Mul.l0] at H
      by_cases c8 : x6_1 < (l0.length : Int)
      · rw [if_pos c8] at H
        have c8b0 : decide (x6_1 < (l0.length : Int)) = true := decide_eq_true c8
        clear c8
        have H' := A0_ H
        clear H
        go_wp2
        repeat (go_quiet (fail); try go_wp2)
        go_loopg [7, 8] k1 (fun kq v7 v8 w' => ∃ (x5_2 : List Int) (x7_2 : Int) (x8_2 : Int), v7 = .int .u64 x7_2 ∧ v8 = .int .i64 x8_2 ∧ Aside0 (astrolaberef01_Mul.l1 kq l0 l1 x5_2 x6_1 x7_2 x8_2 = some r) ∧ Aside0 (kq ≤ k1) ∧ Aside0 (Kd.R (Kd.int .u32) 37 w' w.heap.size (fun _ => True) v472 x5_2) ∧ Aside0 (Below w.heap.size w w'))
        case atStart => exact ⟨(x5_1), (0), (0), rs_, rs_, H', ⟨Nat.le_refl _⟩, ⟨mvR HO_5.out⟩, ⟨bl_⟩⟩
        case round =>
          clear H'
          (try clear c1); (try clear p2); (try clear c3); (try clear c4); (try clear c4b0); (try clear c4b1); (try clear c5); (try clear c5b0); (try clear c5b1); (try clear p6); (try clear c8); (try clear c8b0); (try clear p2); (try clear p6)
          obtain ⟨x5_2, x7_2, x8_2, rfl, rfl, HA, HK2, HO_5, HB⟩ := hrel
          cases gk with
          | zero => exact absurd HA.out (by simp [astrolaberef01_Mul.l1])
          | succ k2 =>
            have H := HA.out
            clear HA
            simp only [astrolaberef01_Mul.l1] at H
            by_cases c9 : x8_2 < (l1.length : Int)
            · rw [if_pos c9] at H
              have c9b0 : decide (x8_2 < (l1.length : Int)) = true := decide_eq_true c9
              clear c9
              by_cases c10 : 0 ≤ x6_1
              case neg => rw [if_neg c10] at H; exact absurd H (by simp)
              rw [if_pos c10] at H
              have c10b0 : decide (0 ≤ x6_1) = true := decide_eq_true c10
              clear c10
              by_cases c11 : x6_1 < (l0.length : Int)
              case neg => rw [if_neg c11] at H; exact absurd H (by simp)
              rw [if_pos c11] at H
              have c11b0 : decide (x6_1 < (l0.length : Int)) = true := decide_eq_true c11
              clear c11
              by_cases c12 : 0 ≤ x8_2
              case neg => rw [if_neg c12] at H; exact absurd H (by simp)
              rw [if_pos c12] at H
              have c12b0 : decide (0 ≤ x8_2) = true := decide_eq_true c12
              clear c12
              obtain ⟨ji13, hji13⟩ : ∃ j_ : Int, (wrap64 (x6_1 + x8_2)) = j_ := ⟨_, rfl⟩
              (first | rw [hji13] at H | simp only [hji13] at H)
              have hji13w : (IntKind.i64.wrap (x6_1 + x8_2)) = ji13 := (i64_w _).trans hji13
              by_cases c14 : 0 ≤ (ji13)
              case neg => rw [if_neg c14] at H; exact absurd H (by simp)
              rw [if_pos c14] at H
              have c14b0 : decide (0 ≤ (ji13)) = true := decide_eq_true c14
              clear c14
              by_cases c15 : (ji13) < (x5_2.length : Int)
              case neg => rw [if_neg c15] at H; exact absurd H (by simp)
              rw [if_pos c15] at H
              have c15b0 : decide ((ji13) < (x5_2.length : Int)) = true := decide_eq_true c15
              clear c15
              obtain ⟨y480, hy480⟩ : ∃ y_ : List Int, y_ = (x5_2.set ((ji13) : Int).toNat ((IntKind.u64.wrap ((IntKind.u64.wrap ((IntKind.u64.wrap ((IntKind.u64.wrap (rd l0 x6_1)) * (IntKind.u64.wrap (rd l1 x8_2)))) + (IntKind.u64.wrap (rd x5_2 (ji13))))) + x7_2)) % 4294967296)) := ⟨_, rfl⟩
              replace H : (astrolaberef01_Mul.l1 k2 l0 l1 y480 x6_1 ((IntKind.u64.wrap ((IntKind.u64.wrap ((IntKind.u64.wrap ((IntKind.u64.wrap (rd l0 x6_1)) * (IntKind.u64.wrap (rd l1 x8_2)))) + (IntKind.u64.wrap (rd x5_2 (ji13))))) + x7_2)) / 4294967296) (wrap64 (x8_2 + 1))) = some r := by first | (rw [hy480]; with_reducible exact H) | (rw [hy480]; exact H) | exact H
              have Ny480 := A0_ hy480
              clear hy480
              have H' := A0_ H
              clear H
              have p477 : 0 ≤ (x6_1 : Int) := od_
              have q477 : x6_1 < (l0.length : Int) := od_
              obtain ⟨ad477, e477, hx477_0⟩ := Kd.at_int HR0.out x6_1 p477 q477
              cases e477
              replace hx477_0 := (HB.out.cell (World.block_lt_of_cell? w _ hx477_0)).trans hx477_0
              replace p477 := eq_true p477
              replace q477 := eq_true q477
              have p478 : 0 ≤ (x8_2 : Int) := od_
              have q478 : x8_2 < (l1.length : Int) := od_
              obtain ⟨ad478, e478, hx478_0⟩ := Kd.at_int HR1.out x8_2 p478 q478
              cases e478
              replace hx478_0 := (HB.out.cell (World.block_lt_of_cell? w _ hx478_0)).trans hx478_0
              replace p478 := eq_true p478
              replace q478 := eq_true q478
              obtain ⟨Ao17, co17, eo17⟩ := Kd.R_slice HO_5.out
              subst eo17
              have p479 : 0 ≤ ((ji13) : Int) := od_
              have q479 : (ji13) < (x5_2.length : Int) := od_
              obtain ⟨ad479, e479, hx479_0⟩ := Kd.at_int (Kd.R_reads' HO_5.out).2.2 (ji13) p479 q479
              cases e479
              replace p479 := eq_true p479
              replace q479 := eq_true q479
              have p16 : 0 ≤ ((ji13) : Int) := od_
              have q16 : ((ji13) : Int) < ((x5_2.length : Int) : Int) := od_
              obtain ⟨go16, co16, eo16, gb16, gl16, cl16, HG16⟩ := Kd.R_form HO_5.out (by omega)
              (first | cases eo16 | (injection eo16 with ea_ en_ ec_; (first | subst ea_ | (injection ea_ with ea_; subst ea_)); subst ec_; clear en_))
              have GB16 := A0_ gb16
              have GG16 := A0_ HG16
              clear gb16 gl16 HG16
              (first | simp only [add_plain] at hx479_0 | skip)
              obtain ⟨hx16_0, hf16_0⟩ := Kd.R_celln 0 HO_5.out ((ji13) : Int) p16 q16
              replace p16 := eq_true p16
              replace q16 := eq_true q16
              obtain ⟨hy18_, hz18_⟩ := Kd.R_celln 0 HO_5.out ((ji13) : Int) od_ od_
              have HP18 := Kd.R_putg HO_5.out ((ji13) : Int) ((IntKind.u64.wrap ((IntKind.u64.wrap ((IntKind.u64.wrap ((IntKind.u64.wrap (rd l0 x6_1)) * (IntKind.u64.wrap (rd l1 x8_2)))) + (IntKind.u64.wrap (rd x5_2 (ji13))))) + x7_2)) % 4294967296)
              go_wp2_with (first | ((with_reducible refine gate_store (t := 37) (p := 55) rfl ?_); (try (rw [drewN_self wr]; generalize hq_ : World.drewN wr _ = wr; have n0_ := A0_ (Kd.R_at hq_ HO_5.out); have n1_ := A0_ (below_at hq_ HB.out); clear hq_ HO_5 HB; have HO_5 := n0_; have HB := n1_; clear n0_ n1_; (try (obtain ⟨hy18_, hz18_⟩ := Kd.R_celln 0 HO_5.out ((ji13) : Int) od_ od_)); (try (have HP18 := Kd.R_putg HO_5.out ((ji13) : Int) ((IntKind.u64.wrap ((IntKind.u64.wrap ((IntKind.u64.wrap ((IntKind.u64.wrap (rd l0 x6_1)) * (IntKind.u64.wrap (rd l1 x8_2)))) + (IntKind.u64.wrap (rd x5_2 (ji13))))) + x7_2)) % 4294967296))))); refine store_event (t := 37) (p := 55) (v := ?vo_w19) (w1 := (wr.setCell ⟨go16, ((ji13) : Int).toNat, none⟩ (.int .u32 ((IntKind.u64.wrap ((IntKind.u64.wrap ((IntKind.u64.wrap ((IntKind.u64.wrap (rd l0 x6_1)) * (IntKind.u64.wrap (rd l1 x8_2)))) + (IntKind.u64.wrap (rd x5_2 (ji13))))) + x7_2)) % 4294967296)))) ?hg ?ho ?hn ?hr ?_; (case ho => rfl); (case hg => rfl); (case hn => rfl); (case hr => first | (go_simp; done) | (go_simp; rfl)); intro w19 hw; have hg : wr.grownBy w19 (some go16) := (by rw [hw]; exact HP18.2); have hp_ : Kd.R (Kd.int .u32) 37 w19 w.heap.size (fun _ => True) (.slice (some ⟨go16, 0, none⟩) x5_2.length co17) y480 := (by rw [hw, Ny480.out]; exact HP18.1); clear HP18; have n0_ := A0_ (hp_); have n1_ := A0_ ((by rw [hw]; exact below_set (HB.out) GB16.out : Below w.heap.size w w19)); clear HO_5; clear HB; have HO_5 := n0_; have HB := n1_; clear n0_ n1_; clear hg hw hp_))
              repeat (go_quiet (first | ((with_reducible refine gate_store (t := 37) (p := 55) rfl ?_); (try (rw [drewN_self wr]; generalize hq_ : World.drewN wr _ = wr; have n0_ := A0_ (Kd.R_at hq_ HO_5.out); have n1_ := A0_ (below_at hq_ HB.out); clear hq_ HO_5 HB; have HO_5 := n0_; have HB := n1_; clear n0_ n1_; (try (obtain ⟨hy18_, hz18_⟩ := Kd.R_celln 0 HO_5.out ((ji13) : Int) od_ od_)); (try (have HP18 := Kd.R_putg HO_5.out ((ji13) : Int) ((IntKind.u64.wrap ((IntKind.u64.wrap ((IntKind.u64.wrap ((IntKind.u64.wrap (rd l0 x6_1)) * (IntKind.u64.wrap (rd l1 x8_2)))) + (IntKind.u64.wrap (rd x5_2 (ji13))))) + x7_2)) % 4294967296))))); refine store_event (t := 37) (p := 55) (v := ?vo_w19) (w1 := (wr.setCell ⟨go16, ((ji13) : Int).toNat, none⟩ (.int .u32 ((IntKind.u64.wrap ((IntKind.u64.wrap ((IntKind.u64.wrap ((IntKind.u64.wrap (rd l0 x6_1)) * (IntKind.u64.wrap (rd l1 x8_2)))) + (IntKind.u64.wrap (rd x5_2 (ji13))))) + x7_2)) % 4294967296)))) ?hg ?ho ?hn ?hr ?_; (case ho => rfl); (case hg => rfl); (case hn => rfl); (case hr => first | (go_simp; done) | (go_simp; rfl)); intro w19 hw; have hg : wr.grownBy w19 (some go16) := (by rw [hw]; exact HP18.2); have hp_ : Kd.R (Kd.int .u32) 37 w19 w.heap.size (fun _ => True) (.slice (some ⟨go16, 0, none⟩) x5_2.length co17) y480 := (by rw [hw, Ny480.out]; exact HP18.1); clear HP18; have n0_ := A0_ (hp_); have n1_ := A0_ ((by rw [hw]; exact below_set (HB.out) GB16.out : Below w.heap.size w w19)); clear HO_5; clear HB; have HO_5 := n0_; have HB := n1_; clear n0_ n1_; clear hg hw hp_)); try go_wp2_with (first | ((with_reducible refine gate_store (t := 37) (p := 55) rfl ?_); (try (rw [drewN_self wr]; generalize hq_ : World.drewN wr _ = wr; have n0_ := A0_ (Kd.R_at hq_ HO_5.out); have n1_ := A0_ (below_at hq_ HB.out); clear hq_ HO_5 HB; have HO_5 := n0_; have HB := n1_; clear n0_ n1_; (try (obtain ⟨hy18_, hz18_⟩ := Kd.R_celln 0 HO_5.out ((ji13) : Int) od_ od_)); (try (have HP18 := Kd.R_putg HO_5.out ((ji13) : Int) ((IntKind.u64.wrap ((IntKind.u64.wrap ((IntKind.u64.wrap ((IntKind.u64.wrap (rd l0 x6_1)) * (IntKind.u64.wrap (rd l1 x8_2)))) + (IntKind.u64.wrap (rd x5_2 (ji13))))) + x7_2)) % 4294967296))))); refine store_event (t := 37) (p := 55) (v := ?vo_w19) (w1 := (wr.setCell ⟨go16, ((ji13) : Int).toNat, none⟩ (.int .u32 ((IntKind.u64.wrap ((IntKind.u64.wrap ((IntKind.u64.wrap ((IntKind.u64.wrap (rd l0 x6_1)) * (IntKind.u64.wrap (rd l1 x8_2)))) + (IntKind.u64.wrap (rd x5_2 (ji13))))) + x7_2)) % 4294967296)))) ?hg ?ho ?hn ?hr ?_; (case ho => rfl); (case hg => rfl); (case hn => rfl); (case hr => first | (go_simp; done) | (go_simp; rfl)); intro w19 hw; have hg : wr.grownBy w19 (some go16) := (by rw [hw]; exact HP18.2); have hp_ : Kd.R (Kd.int .u32) 37 w19 w.heap.size (fun _ => True) (.slice (some ⟨go16, 0, none⟩) x5_2.length co17) y480 := (by rw [hw, Ny480.out]; exact HP18.1); clear HP18; have n0_ := A0_ (hp_); have n1_ := A0_ ((by rw [hw]; exact below_set (HB.out) GB16.out : Below w.heap.size w w19)); clear HO_5; clear HB; have HO_5 := n0_; have HB := n1_; clear n0_ n1_; clear hg hw hp_)))
              go_roundg k2
              case measure => have := HK1.out; have := HK2.out; omega
              case rel => exact ⟨(y480), ((IntKind.u64.wrap ((IntKind.u64.wrap ((IntKind.u64.wrap ((IntKind.u64.wrap (rd l0 x6_1)) * (IntKind.u64.wrap (rd l1 x8_2)))) + (IntKind.u64.wrap (rd x5_2 (ji13))))) + x7_2)) / 4294967296), (wrap64 (x8_2 + 1)), (by first | rfl | (simp; done) | (simp only [← hji13] <;> (first | rfl | simp)) | (simp [*]; done)), rs_, H', ⟨by have := HK1.out; have := HK2.out; omega⟩, ⟨mvR HO_5.out⟩, ⟨bl_⟩⟩
            · rw [if_neg c9] at H
              have c9b0 : decide (x8_2 < (l1.length : Int)) = false := decide_eq_false c9
              clear c9
              obtain ⟨ji20, hji20⟩ : ∃ j_ : Int, (wrap64 (x6_1 + (l1.length : Int))) = j_ := ⟨_, rfl⟩
              (first | rw [hji20] at H | simp only [hji20] at H)
              have hji20w : (IntKind.i64.wrap (x6_1 + (l1.length : Int))) = ji20 := (i64_w _).trans hji20
              by_cases c21 : 0 ≤ (ji20)
              case neg => rw [if_neg c21] at H; exact absurd H (by simp)
              rw [if_pos c21] at H
              have c21b0 : decide (0 ≤ (ji20)) = true := decide_eq_true c21
              clear c21
              by_cases c22 : (ji20) < (x5_2.length : Int)
              case neg => rw [if_neg c22] at H; exact absurd H (by simp)
              rw [if_pos c22] at H
              have c22b0 : decide ((ji20) < (x5_2.length : Int)) = true := decide_eq_true c22
              clear c22
              obtain ⟨y481, hy481⟩ : ∃ y_ : List Int, y_ = (x5_2.set ((ji20) : Int).toNat ((x7_2) % 4294967296)) := ⟨_, rfl⟩
              replace H : (astrolaberef01_Mul.l0 k2 l0 l1 y481 (wrap64 (x6_1 + 1))) = some r := by first | (rw [hy481]; with_reducible exact H) | (rw [hy481]; exact H) | exact H
              have Ny481 := A0_ hy481
              clear hy481
              have H' := A0_ H
              clear H
              have p23 : 0 ≤ ((ji20) : Int) := od_
              have q23 : ((ji20) : Int) < ((x5_2.length : Int) : Int) := od_
              obtain ⟨go23, co23, eo23, gb23, gl23, cl23, HG23⟩ := Kd.R_form HO_5.out (by omega)
              (first | cases eo23 | (injection eo23 with ea_ en_ ec_; (first | subst ea_ | (injection ea_ with ea_; subst ea_)); subst ec_; clear en_))
              have GB23 := A0_ gb23
              have GG23 := A0_ HG23
              clear gb23 gl23 HG23
              obtain ⟨hx23_0, hf23_0⟩ := Kd.R_celln 0 HO_5.out ((ji20) : Int) p23 q23
              replace p23 := eq_true p23
              replace q23 := eq_true q23
              obtain ⟨hy24_, hz24_⟩ := Kd.R_celln 0 HO_5.out ((ji20) : Int) od_ od_
              have HP24 := Kd.R_putg HO_5.out ((ji20) : Int) ((x7_2) % 4294967296)
              go_wp2_with (first | ((with_reducible refine gate_store (t := 37) (p := 65) rfl ?_); (try (rw [drewN_self wr]; generalize hq_ : World.drewN wr _ = wr; have n0_ := A0_ (Kd.R_at hq_ HO_5.out); have n1_ := A0_ (below_at hq_ HB.out); clear hq_ HO_5 HB; have HO_5 := n0_; have HB := n1_; clear n0_ n1_; (try (obtain ⟨hy24_, hz24_⟩ := Kd.R_celln 0 HO_5.out ((ji20) : Int) od_ od_)); (try (have HP24 := Kd.R_putg HO_5.out ((ji20) : Int) ((x7_2) % 4294967296))))); refine store_event (t := 37) (p := 65) (v := ?vo_w25) (w1 := (wr.setCell ⟨go23, ((ji20) : Int).toNat, none⟩ (.int .u32 ((x7_2) % 4294967296)))) ?hg ?ho ?hn ?hr ?_; (case ho => rfl); (case hg => rfl); (case hn => rfl); (case hr => first | (go_simp; done) | (go_simp; rfl)); intro w25 hw; have hg : wr.grownBy w25 (some go23) := (by rw [hw]; exact HP24.2); have hp_ : Kd.R (Kd.int .u32) 37 w25 w.heap.size (fun _ => True) (.slice (some ⟨go23, 0, none⟩) x5_2.length co23) y481 := (by rw [hw, Ny481.out]; exact HP24.1); clear HP24; have n0_ := A0_ (hp_); have n1_ := A0_ ((by rw [hw]; exact below_set (HB.out) GB23.out : Below w.heap.size w w25)); clear HO_5; clear HB; have HO_5 := n0_; have HB := n1_; clear n0_ n1_; clear hg hw hp_))
              repeat (go_quiet (first | ((with_reducible refine gate_store (t := 37) (p := 65) rfl ?_); (try (rw [drewN_self wr]; generalize hq_ : World.drewN wr _ = wr; have n0_ := A0_ (Kd.R_at hq_ HO_5.out); have n1_ := A0_ (below_at hq_ HB.out); clear hq_ HO_5 HB; have HO_5 := n0_; have HB := n1_; clear n0_ n1_; (try (obtain ⟨hy24_, hz24_⟩ := Kd.R_celln 0 HO_5.out ((ji20) : Int) od_ od_)); (try (have HP24 := Kd.R_putg HO_5.out ((ji20) : Int) ((x7_2) % 4294967296))))); refine store_event (t := 37) (p := 65) (v := ?vo_w25) (w1 := (wr.setCell ⟨go23, ((ji20) : Int).toNat, none⟩ (.int .u32 ((x7_2) % 4294967296)))) ?hg ?ho ?hn ?hr ?_; (case ho => rfl); (case hg => rfl); (case hn => rfl); (case hr => first | (go_simp; done) | (go_simp; rfl)); intro w25 hw; have hg : wr.grownBy w25 (some go23) := (by rw [hw]; exact HP24.2); have hp_ : Kd.R (Kd.int .u32) 37 w25 w.heap.size (fun _ => True) (.slice (some ⟨go23, 0, none⟩) x5_2.length co23) y481 := (by rw [hw, Ny481.out]; exact HP24.1); clear HP24; have n0_ := A0_ (hp_); have n1_ := A0_ ((by rw [hw]; exact below_set (HB.out) GB23.out : Below w.heap.size w w25)); clear HO_5; clear HB; have HO_5 := n0_; have HB := n1_; clear n0_ n1_; clear hg hw hp_)); try go_wp2_with (first | ((with_reducible refine gate_store (t := 37) (p := 65) rfl ?_); (try (rw [drewN_self wr]; generalize hq_ : World.drewN wr _ = wr; have n0_ := A0_ (Kd.R_at hq_ HO_5.out); have n1_ := A0_ (below_at hq_ HB.out); clear hq_ HO_5 HB; have HO_5 := n0_; have HB := n1_; clear n0_ n1_; (try (obtain ⟨hy24_, hz24_⟩ := Kd.R_celln 0 HO_5.out ((ji20) : Int) od_ od_)); (try (have HP24 := Kd.R_putg HO_5.out ((ji20) : Int) ((x7_2) % 4294967296))))); refine store_event (t := 37) (p := 65) (v := ?vo_w25) (w1 := (wr.setCell ⟨go23, ((ji20) : Int).toNat, none⟩ (.int .u32 ((x7_2) % 4294967296)))) ?hg ?ho ?hn ?hr ?_; (case ho => rfl); (case hg => rfl); (case hn => rfl); (case hr => first | (go_simp; done) | (go_simp; rfl)); intro w25 hw; have hg : wr.grownBy w25 (some go23) := (by rw [hw]; exact HP24.2); have hp_ : Kd.R (Kd.int .u32) 37 w25 w.heap.size (fun _ => True) (.slice (some ⟨go23, 0, none⟩) x5_2.length co23) y481 := (by rw [hw, Ny481.out]; exact HP24.1); clear HP24; have n0_ := A0_ (hp_); have n1_ := A0_ ((by rw [hw]; exact below_set (HB.out) GB23.out : Below w.heap.size w w25)); clear HO_5; clear HB; have HO_5 := n0_; have HB := n1_; clear n0_ n1_; clear hg hw hp_)))
              go_roundg k2
              case measure => have := HK1.out; have := HK2.out; omega
              case rel => exact ⟨(y481), (wrap64 (x6_1 + 1)), rs_, H', ⟨by have := HK1.out; have := HK2.out; omega⟩, ⟨mvR HO_5.out⟩, ⟨bl_⟩⟩
      · rw [if_neg c8] at H
        have c8b0 : decide (x6_1 < (l0.length : Int)) = false := decide_eq_false c8
        clear c8
        replace H := Option.bind_eq_some_iff.mp H
        obtain ⟨t474, A260, H⟩ := H
        (try dsimp only at H)
        have A26 := A0_ A260
        clear A260
        obtain rfl := Option.some.inj H
        obtain ⟨Ao27, co27, eo27⟩ := Kd.R_slice HO_5.out
        subst eo27
        go_wp2_with (first | (go_at_call 29; (with_reducible refine (astrolaberef01_Trim.calls k1 _ _ x5_1 t474 _ ?side1 ?side2 A26.out).mono ?_); (case side1 => exact mvC (Kd.R_reads' HO_5.out).2.2); (case side2 => exact (Kd.R_reads' HO_5.out).2.1); rintro e w28 ⟨v475, rfl, ho0, hb⟩; have n0_ := A0_ (Kd.R_elder' (mvR HO_5.out) (Kd.R_base ho0) hb); have n1_ := A0_ (Kd.R_lower (Kd.R_new' ho0 (Kd.R_lt (mvR HO_5.out))) (below_size bl_)); have n2_ := A0_ (below_step bl_ hb); clear HO_5; clear HB; have HO_5 := n0_; have HO476 := n1_; have HB := n2_; clear n0_ n1_ n2_; (try clear hb); (try clear hb2); (try clear hk); (try clear hi); (try clear ho0)))
        repeat (go_quiet (first | (go_at_call 29; (with_reducible refine (astrolaberef01_Trim.calls k1 _ _ x5_1 t474 _ ?side1 ?side2 A26.out).mono ?_); (case side1 => exact mvC (Kd.R_reads' HO_5.out).2.2); (case side2 => exact (Kd.R_reads' HO_5.out).2.1); rintro e w28 ⟨v475, rfl, ho0, hb⟩; have n0_ := A0_ (Kd.R_elder' (mvR HO_5.out) (Kd.R_base ho0) hb); have n1_ := A0_ (Kd.R_lower (Kd.R_new' ho0 (Kd.R_lt (mvR HO_5.out))) (below_size bl_)); have n2_ := A0_ (below_step bl_ hb); clear HO_5; clear HB; have HO_5 := n0_; have HO476 := n1_; have HB := n2_; clear n0_ n1_ n2_; (try clear hb); (try clear hb2); (try clear hk); (try clear hi); (try clear ho0))); try go_wp2_with (first | (go_at_call 29; (with_reducible refine (astrolaberef01_Trim.calls k1 _ _ x5_1 t474 _ ?side1 ?side2 A26.out).mono ?_); (case side1 => exact mvC (Kd.R_reads' HO_5.out).2.2); (case side2 => exact (Kd.R_reads' HO_5.out).2.1); rintro e w28 ⟨v475, rfl, ho0, hb⟩; have n0_ := A0_ (Kd.R_elder' (mvR HO_5.out) (Kd.R_base ho0) hb); have n1_ := A0_ (Kd.R_lower (Kd.R_new' ho0 (Kd.R_lt (mvR HO_5.out))) (below_size bl_)); have n2_ := A0_ (below_step bl_ hb); clear HO_5; clear HB; have HO_5 := n0_; have HO476 := n1_; have HB := n2_; clear n0_ n1_ n2_; (try clear hb); (try clear hb2); (try clear hk); (try clear hi); (try clear ho0))))
        go_ret
        exact ⟨_, by first | rfl | (simp [errW_none, errW_some] <;> rfl) | (simp only [← hji3]; first | rfl | (simp [errW_none, errW_some] <;> rfl)) | (simp [*, errW_none, errW_some] <;> rfl), mvR (Kd.R_mono HO476.out (fun _ hk => trivial)), bl_⟩

end Go.Proofs.Ytohkjfdcmiiehaa.P
