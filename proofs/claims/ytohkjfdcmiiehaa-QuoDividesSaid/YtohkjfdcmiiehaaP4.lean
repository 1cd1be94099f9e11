/- What the Go functions of these names come to, as plain Lean functions, and the walks that show it. Written for this claim by a turned copy of the print program; Lean checks it. -/
import Derived.Test.YtohkjfdcmiiehaaP0
import Derived.Test.YtohkjfdcmiiehaaP1
import Derived.Test.YtohkjfdcmiiehaaP3
namespace Go.Proofs.Ytohkjfdcmiiehaa.P
open Go.RowKit Go.Proofs.YtohkjfdcmiiehaaW.PrintWords Go.Proofs.YtohkjfdcmiiehaaW.PrintLast Go.Proofs.YtohkjfdcmiiehaaW.PrintMore
attribute [local go_sem] max2_int min2_int max_two min_two max_three min_three max_four min_four   -- for this text's walks alone
set_option linter.unusedVariables false
set_option linter.unusedSimpArgs false

/-! ### nat_Mul: function 21 -/
mutual
def nat_Mul.l0 : Nat → List Int → List Int → List Int → Int → Int → Option (List Int)
  | 0, _, _, _, _, _ => none
  | k + 1, x1, x5, x22, x23, x24 => if x24 < x23 then (if 0 ≤ x24 then (if x24 < (x22.length : Int) then (nat_Mul.l1 k x1 x5 x24 (rd x22 x24) 0 x22 x23 x24 x1 (x1.length : Int) 0) else (none)) else (none)) else ((nat_trim.f k x5).bind fun t298 => (some t298))
def nat_Mul.l1 : Nat → List Int → List Int → Int → Int → Int → List Int → Int → Int → List Int → Int → Int → Option (List Int)
  | 0, _, _, _, _, _, _, _, _, _, _, _ => none
  | k + 1, x1, x5, x6, x7, x8, x22, x23, x24, x29, x30, x31 => if x31 < x30 then (if 0 ≤ x31 then (if x31 < (x29.length : Int) then (if 0 ≤ (wrap64 (x6 + x31)) then (if (wrap64 (x6 + x31)) < (x5.length : Int) then (nat_Mul.l1 k x1 (x5.set ((wrap64 (x6 + x31)) : Int).toNat ((IntKind.u64.wrap ((IntKind.u64.wrap ((IntKind.u64.wrap ((IntKind.u64.wrap (x7)) * (IntKind.u64.wrap (rd x29 x31)))) + (IntKind.u64.wrap (rd x5 (wrap64 (x6 + x31)))))) + x8)) % 4294967296)) x6 x7 ((IntKind.u64.wrap ((IntKind.u64.wrap ((IntKind.u64.wrap ((IntKind.u64.wrap (x7)) * (IntKind.u64.wrap (rd x29 x31)))) + (IntKind.u64.wrap (rd x5 (wrap64 (x6 + x31)))))) + x8)) / 4294967296) x22 x23 x24 x29 x30 (wrap64 (x31 + 1))) else (none)) else (none)) else (none)) else (none)) else (if 0 ≤ (wrap64 (x6 + (x1.length : Int))) then (if (wrap64 (x6 + (x1.length : Int))) < (x5.length : Int) then (nat_Mul.l0 k x1 (x5.set ((wrap64 (x6 + (x1.length : Int))) : Int).toNat ((x8) % 4294967296)) x22 x23 (wrap64 (x24 + 1))) else (none)) else (none))
end
def nat_Mul.f (k : Nat) (l0 : List Int) (l1 : List Int) : Option (List Int) := (nat_trim.f k l0).bind fun t289 => ((nat_trim.f k l1).bind fun t292 => (if 0 ≤ (wrap64 ((t289.length : Int) + (t292.length : Int))) then (if (wrap64 ((t289.length : Int) + (t292.length : Int)) : Int).toNat ≤ 70368744177664 then (nat_Mul.l0 k t292 (List.replicate (wrap64 ((t289.length : Int) + (t292.length : Int)) : Int).toNat 0) t289 (t289.length : Int) 0) else (none)) else (none)))
theorem nat_Mul.mono_l : ∀ k, (∀ y0 y1 y2 y3 y4, LeO (nat_Mul.l0 k y0 y1 y2 y3 y4) (nat_Mul.l0 (k + 1) y0 y1 y2 y3 y4)) ∧ (∀ y0 y1 y2 y3 y4 y5 y6 y7 y8 y9 y10, LeO (nat_Mul.l1 k y0 y1 y2 y3 y4 y5 y6 y7 y8 y9 y10) (nat_Mul.l1 (k + 1) y0 y1 y2 y3 y4 y5 y6 y7 y8 y9 y10))
  | 0 => ⟨fun _ _ _ _ _ r h => by simp [nat_Mul.l0] at h, fun _ _ _ _ _ _ _ _ _ _ _ r h => by simp [nat_Mul.l1] at h⟩
  | k + 1 => by
    obtain ⟨ih0, ih1⟩ := nat_Mul.mono_l k
    refine ⟨?_, ?_⟩
    · intro y0 y1 y2 y3 y4
      unfold nat_Mul.l0
      repeat' first
      | (with_reducible exact ih0 _ _ _ _ _)
      | (with_reducible exact ih1 _ _ _ _ _ _ _ _ _ _ _)
      | (with_reducible exact nat_trim.mono _ _)
      | (with_reducible exact LeO.refl _)
      | (with_reducible exact LeO.none _)
      | (with_reducible refine LeO.ite ?_ ?_)
      | (with_reducible refine LeO.bind ?_ (fun _ => ?_))
      | exact ih0 _ _ _ _ _
      | exact ih1 _ _ _ _ _ _ _ _ _ _ _
      | exact nat_trim.mono _ _
      | exact LeO.none _
      | refine LeO.ite ?_ ?_
      | refine LeO.bind ?_ (fun _ => ?_)
    · intro y0 y1 y2 y3 y4 y5 y6 y7 y8 y9 y10
      unfold nat_Mul.l1
      repeat' first
      | (with_reducible exact ih0 _ _ _ _ _)
      | (with_reducible exact ih1 _ _ _ _ _ _ _ _ _ _ _)
      | (with_reducible exact nat_trim.mono _ _)
      | (with_reducible exact LeO.refl _)
      | (with_reducible exact LeO.none _)
      | (with_reducible refine LeO.ite ?_ ?_)
      | (with_reducible refine LeO.bind ?_ (fun _ => ?_))
      | exact ih0 _ _ _ _ _
      | exact ih1 _ _ _ _ _ _ _ _ _ _ _
      | exact nat_trim.mono _ _
      | exact LeO.none _
      | refine LeO.ite ?_ ?_
      | refine LeO.bind ?_ (fun _ => ?_)
theorem nat_Mul.mono : ∀ a0 a1 k, LeO (nat_Mul.f k a0 a1) (nat_Mul.f (k + 1) a0 a1) := by
  intro a0 a1 k
  obtain ⟨ih0, ih1⟩ := nat_Mul.mono_l k
  unfold nat_Mul.f
  repeat' first
      | (with_reducible exact ih0 _ _ _ _ _)
      | (with_reducible exact ih1 _ _ _ _ _ _ _ _ _ _ _)
      | (with_reducible exact nat_trim.mono _ _)
      | (with_reducible exact LeO.refl _)
      | (with_reducible exact LeO.none _)
      | (with_reducible refine LeO.ite ?_ ?_)
      | (with_reducible refine LeO.bind ?_ (fun _ => ?_))
      | exact ih0 _ _ _ _ _
      | exact ih1 _ _ _ _ _ _ _ _ _ _ _
      | exact nat_trim.mono _ _
      | exact LeO.none _
      | refine LeO.ite ?_ ?_
      | refine LeO.bind ?_ (fun _ => ?_)
set_option maxHeartbeats 8000000 in
set_option maxRecDepth 100000 in
theorem nat_Mul.calls (k : Nat) (P0_ : Nat → Prop) (A0 : Option Addr) (c0 : Nat) (l0 : List Int) (P1_ : Nat → Prop) (A1 : Option Addr) (c1 : Nat) (l1 : List Int) (r : List Int) (w : World) (hs0 : Kd.V (Kd.int .u32) 37 w w.heap.size (fun k_ => P0_ k_) (.slice A0 l0.length c0) l0) (hs1 : Kd.V (Kd.int .u32) 37 w w.heap.size (fun k_ => P1_ k_) (.slice A1 l1.length c1) l1) (h : nat_Mul.f k l0 l1 = some r) :
    Calls Try.prog 21 #[.slice A0 l0.length c0, .slice A1 l1.length c1] w fun e w' => ∃ v0_ : Value, e = .returned (v0_) ∧ Kd.V (Kd.int .u32) 37 w' w.heap.size (fun k_ => ((P0_ k_ ∨ P1_ k_) ∨ w.heap.size ≤ k_)) v0_ r ∧ Below w.heap.size w w' := by
  have HO0 := A0_ (show Kd.V (Kd.int .u32) 37 w w.heap.size (fun k_ => ((P0_ k_ ∨ P1_ k_) ∨ w.heap.size ≤ k_)) (.slice A0 l0.length c0) l0 from Kd.V_mono hs0 (fun k_ hk => .inl (.inl hk)))
  have HO1 := A0_ (show Kd.V (Kd.int .u32) 37 w w.heap.size (fun k_ => ((P0_ k_ ∨ P1_ k_) ∨ w.heap.size ≤ k_)) (.slice A1 l1.length c1) l1 from Kd.V_mono hs1 (fun k_ hk => .inl (.inr hk)))
  have HB := A0_ (Below.refl w.heap.size w)
  have H : ((nat_trim.f k l0).bind fun t289 => ((nat_trim.f k l1).bind fun t292 => (if 0 ≤ (wrap64 ((t289.length : Int) + (t292.length : Int))) then (if (wrap64 ((t289.length : Int) + (t292.length : Int)) : Int).toNat ≤ 70368744177664 then (nat_Mul.l0 k t292 (List.replicate (wrap64 ((t289.length : Int) + (t292.length : Int)) : Int).toNat 0) t289 (t289.length : Int) 0) else (none)) else (none)))) = some r := h
  clear h
  replace H := Option.bind_eq_some_iff.mp H
  obtain ⟨t289, A30, H⟩ := H
  (try dsimp only at H)
  have A3 := A0_ A30
  clear A30
  replace H := Option.bind_eq_some_iff.mp H
  obtain ⟨t292, A40, H⟩ := H
  (try dsimp only at H)
  have A4 := A0_ A40
  clear A40
  obtain ⟨ji5, hji5⟩ : ∃ j_ : Int, (wrap64 ((t289.length : Int) + (t292.length : Int))) = j_ := ⟨_, rfl⟩
  (first | rw [hji5] at H | simp only [hji5] at H)
  (try rw [hji5] at A3)
  (try rw [hji5] at A4)
  have hji5w : (IntKind.i64.wrap ((t289.length : Int) + (t292.length : Int))) = ji5 := (i64_w _).trans hji5
  by_cases c6 : 0 ≤ (ji5)
  case neg => rw [if_neg c6] at H; exact absurd H (by simp)
  rw [if_pos c6] at H
  have c6b0 := eq_true c6
  have c6b1 : decide (0 ≤ (ji5)) = true := decide_eq_true c6
  clear c6
  by_cases c7 : (ji5 : Int).toNat ≤ 70368744177664
  case neg => rw [if_neg c7] at H; exact absurd H (by simp)
  rw [if_pos c7] at H
  have c7b0 := eq_true c7
  have c7b1 : decide ((ji5 : Int).toNat ≤ 70368744177664) = true := decide_eq_true c7
  clear c7
  obtain ⟨y295, hy295⟩ : ∃ y_ : List Int, y_ = (List.replicate (ji5 : Int).toNat 0) := ⟨_, rfl⟩
  replace H : (nat_Mul.l0 k t292 y295 t289 (t289.length : Int) 0) = some r := by first | (rw [hy295]; with_reducible exact H) | (rw [hy295]; exact H) | exact H
  have Ny295 := A0_ hy295
  clear hy295
  have H' := A0_ H
  clear H
  go_enter Try.func21, Try.ntmps21
  go_wp2_with (first | ((with_reducible refine gate_callee (f := 40) rfl ?_); refine goesM_ (some 13) Try.func40 #[.slice A0 l0.length c0] rfl ?_; (with_reducible refine (nat_trim.calls k (fun k_ => ((P0_ k_ ∨ P1_ k_) ∨ w.heap.size ≤ k_)) _ _ l0 t289 _ ?side1 A3.out).mono ?_); (case side1 => exact HO0.out); rintro e w8 ⟨v290, rfl, ho0, hb⟩; refine ⟨_, rfl, ?_⟩; have n0_ := A0_ (Kd.V_below (mvV HO0.out) hb); have n1_ := A0_ (Kd.V_below (mvV HO1.out) hb); have n2_ := A0_ (Kd.V_lower (Kd.V_mono (ok' := fun k_ => ((P0_ k_ ∨ P1_ k_) ∨ w.heap.size ≤ k_)) ho0 (fun k_ hk_ => Or.elim hk_ (fun hs_ => hs_) (fun hn_ => (.inr (Nat.le_trans (below_size bl_) hn_))))) (below_size bl_)); have n3_ := A0_ (below_step bl_ hb); clear HO0; clear HO1; clear HB; have HO0 := n0_; have HO1 := n1_; have HO291 := n2_; have HB := n3_; clear n0_ n1_ n2_ n3_; (try clear hb); (try clear hb2); (try clear hk); (try clear hi); (try clear ho0)) | ((with_reducible refine gate_callee (f := 40) rfl ?_); refine goesM_ (some 15) Try.func40 #[.slice A1 l1.length c1] rfl ?_; (with_reducible refine (nat_trim.calls k (fun k_ => ((P0_ k_ ∨ P1_ k_) ∨ w.heap.size ≤ k_)) _ _ l1 t292 _ ?side1 A4.out).mono ?_); (case side1 => exact HO1.out); rintro e w9 ⟨v293, rfl, ho0, hb⟩; refine ⟨_, rfl, ?_⟩; have n0_ := A0_ (Kd.V_below (mvV HO0.out) hb); have n1_ := A0_ (Kd.V_below (mvV HO1.out) hb); have n2_ := A0_ (Kd.V_below (mvV HO291.out) hb); have n3_ := A0_ (Kd.V_lower (Kd.V_mono (ok' := fun k_ => ((P0_ k_ ∨ P1_ k_) ∨ w.heap.size ≤ k_)) ho0 (fun k_ hk_ => Or.elim hk_ (fun hs_ => hs_) (fun hn_ => (.inr (Nat.le_trans (below_size bl_) hn_))))) (below_size bl_)); have n4_ := A0_ (below_step bl_ hb); clear HO0; clear HO1; clear HO291; clear HB; have HO0 := n0_; have HO1 := n1_; have HO291 := n2_; have HO294 := n3_; have HB := n4_; clear n0_ n1_ n2_ n3_ n4_; (try clear hb); (try clear hb2); (try clear hk); (try clear hi); (try clear ho0); obtain ⟨Ao10, co10, eo10⟩ := Kd.V_slice HO291.out; subst eo10; obtain ⟨Ao11, co11, eo11⟩ := Kd.V_slice HO294.out; subst eo11) | ((with_reducible refine gate_dst (N := 21) rfl ?_); refine Kd.R_make (Kd.int .u32) _ 37 rfl (N := 21) rfl 22 _ _ rfl ji5 rfl rfl Try.underlying22 (.int .u32 0) 4 info37 rfl (by decide) (by omega) 0 (ok := fun _ => True) (okp := fun _ => True) rfl (fun _ hk => hk) trivial od_ (Nat.le_trans (Nat.mul_le_mul_right _ (od_ : ji5.toNat ≤ 70368744177664)) (by omega)) (Below.refl _ _) (Nat.le_refl _) ?_; intro v296 w12 ho13 hb hg_ hnew_; clear hg_ hnew_; (first | rw [← Ny295.out] at ho13 | (simp only [Int.reduceToNat] at ho13; rw [← Ny295.out] at ho13)); have n0_ := A0_ (Kd.V_elder' (mvV HO0.out) (Kd.R_base ho13) hb); have n1_ := A0_ (Kd.V_elder' (mvV HO1.out) (Kd.R_base ho13) hb); have n2_ := A0_ (Kd.V_elder' (mvV HO291.out) (Kd.R_base ho13) hb); have n3_ := A0_ (Kd.V_elder' (mvV HO294.out) (Kd.R_base ho13) hb); have n4_ := A0_ (Kd.R_lower (Kd.R_newM (M := fun k_ => (w.heap.size ≤ k_)) ho13 (below_size bl_) (fun k_ h_ => h_)) (below_size bl_)); have n5_ := A0_ (below_step bl_ hb); clear HO0; clear HO1; clear HO291; clear HO294; clear HB; have HO0 := n0_; have HO1 := n1_; have HO291 := n2_; have HO294 := n3_; have HO297 := n4_; have HB := n5_; clear n0_ n1_ n2_ n3_ n4_ n5_; clear hb ho13))
  go_loopg [24] k (fun kq v24 w' => ∃ (x5_1 : List Int) (x24_1 : Int), v24 = .int .i64 x24_1 ∧ Aside0 (nat_Mul.l0 kq t292 x5_1 t289 (t289.length : Int) x24_1 = some r) ∧ Aside0 (kq ≤ k) ∧ Aside0 (Kd.V (Kd.int .u32) 37 w' w.heap.size (fun k_ => ((P0_ k_ ∨ P1_ k_) ∨ w.heap.size ≤ k_) ∧ some k_ ≠ (v296 : Value).ownBlock) (.slice Ao11 t292.length co11) t292) ∧ Aside0 (Kd.R (Kd.int .u32) 37 w' w.heap.size (fun k_ => (w.heap.size ≤ k_)) v296 x5_1) ∧ Aside0 (Kd.V (Kd.int .u32) 37 w' w.heap.size (fun k_ => ((P0_ k_ ∨ P1_ k_) ∨ w.heap.size ≤ k_) ∧ some k_ ≠ (v296 : Value).ownBlock) (.slice Ao10 t289.length co10) t289) ∧ Aside0 (Below w.heap.size w w'))
  case atStart => exact ⟨(y295), (0), rs_, H', ⟨Nat.le_refl _⟩, ⟨mvV HO294.out⟩, ⟨mvR (Kd.R_mono HO297.out (fun _ hk => hk.1))⟩, ⟨mvV HO291.out⟩, ⟨bl_⟩⟩
  case round =>
    clear H'
    (try clear c1); (try clear c2); (try clear p2); (try clear c4); (try clear c6); (try clear c6b0); (try clear c6b1); (try clear p6); (try clear c7); (try clear c7b0); (try clear c7b1)
    obtain ⟨x5_1, x24_1, rfl, HA, HK1, HO_1, HO_5, HO_22, HB⟩ := hrel
    cases gk with
    | zero => exact absurd HA.out (by simp [nat_Mul.l0])
    | succ k1 =>
      have H := HA.out
      clear HA
      simp only [nat_Mul.l0] at H
      by_cases c14 : x24_1 < (t289.length : Int)
      · rw [if_pos c14] at H
        have c14b0 : decide (x24_1 < (t289.length : Int)) = true := decide_eq_true c14
        clear c14
        by_cases c15 : 0 ≤ x24_1
        case neg => rw [if_neg c15] at H; exact absurd H (by simp)
        rw [if_pos c15] at H
        have c15b0 : decide (0 ≤ x24_1) = true := decide_eq_true c15
        clear c15
        by_cases c16 : x24_1 < (t289.length : Int)
        case neg => rw [if_neg c16] at H; exact absurd H (by simp)
        rw [if_pos c16] at H
        have c16b0 : decide (x24_1 < (t289.length : Int)) = true := decide_eq_true c16
        clear c16
        have H' := A0_ H
        clear H
        have p301 : 0 ≤ (x24_1 : Int) := od_
        have q301 : x24_1 < (t289.length : Int) := od_
        obtain ⟨ad301, e301, hx301_0⟩ := Kd.at_int (Kd.V_reads' HO_22.out).2.2 x24_1 p301 q301
        cases e301
        replace p301 := eq_true p301
        replace q301 := eq_true q301
        go_wp2
        go_loopg [8, 31] k1 (fun kq v8 v31 w' => ∃ (x5_2 : List Int) (x8_2 : Int) (x31_2 : Int), v8 = .int .u64 x8_2 ∧ v31 = .int .i64 x31_2 ∧ Aside0 (nat_Mul.l1 kq t292 x5_2 x24_1 (rd t289 x24_1) x8_2 t289 (t289.length : Int) x24_1 t292 (t292.length : Int) x31_2 = some r) ∧ Aside0 (kq ≤ k1) ∧ Aside0 (Kd.V (Kd.int .u32) 37 w' w.heap.size (fun k_ => ((P0_ k_ ∨ P1_ k_) ∨ w.heap.size ≤ k_) ∧ some k_ ≠ (v296 : Value).ownBlock) (.slice Ao11 t292.length co11) t292) ∧ Aside0 (Kd.R (Kd.int .u32) 37 w' w.heap.size (fun k_ => (w.heap.size ≤ k_)) v296 x5_2) ∧ Aside0 (Kd.V (Kd.int .u32) 37 w' w.heap.size (fun k_ => ((P0_ k_ ∨ P1_ k_) ∨ w.heap.size ≤ k_) ∧ some k_ ≠ (v296 : Value).ownBlock) (.slice (some ad301) t289.length co10) t289) ∧ Aside0 (Kd.V (Kd.int .u32) 37 w' w.heap.size (fun k_ => ((P0_ k_ ∨ P1_ k_) ∨ w.heap.size ≤ k_) ∧ some k_ ≠ (v296 : Value).ownBlock) (.slice Ao11 t292.length co11) t292) ∧ Aside0 (Below w.heap.size w w'))
        case atStart => exact ⟨(x5_1), (0), (0), rs_, rs_, H', ⟨Nat.le_refl _⟩, ⟨mvV HO_1.out⟩, ⟨mvR HO_5.out⟩, ⟨mvV HO_22.out⟩, ⟨mvV HO_1.out⟩, ⟨bl_⟩⟩
        case round =>
          clear H'
          (try clear c1); (try clear c2); (try clear p2); (try clear p3); (try clear q3); (try clear hx3); (try clear c4); (try clear c6); (try clear c6b0); (try clear c6b1); (try clear p6); (try clear c7); (try clear c7b0); (try clear c7b1); (try clear c14); (try clear c14b0); (try clear c15); (try clear c15b0); (try clear c16); (try clear c16b0); (try clear hx301_0); (try clear p2); (try clear p301)
          (try clear p6); (try clear q301)
          obtain ⟨x5_2, x8_2, x31_2, rfl, rfl, HA, HK2, HO_1, HO_5, HO_22, HO_29, HB⟩ := hrel
          cases gk with
          | zero => exact absurd HA.out (by simp [nat_Mul.l1])
          | succ k2 =>
            have H := HA.out
            clear HA
            simp only [nat_Mul.l1] at H
            by_cases c17 : x31_2 < (t292.length : Int)
            · rw [if_pos c17] at H
              have c17b0 : decide (x31_2 < (t292.length : Int)) = true := decide_eq_true c17
              clear c17
              by_cases c18 : 0 ≤ x31_2
              case neg => rw [if_neg c18] at H; exact absurd H (by simp)
              rw [if_pos c18] at H
              have c18b0 : decide (0 ≤ x31_2) = true := decide_eq_true c18
              clear c18
              by_cases c19 : x31_2 < (t292.length : Int)
              case neg => rw [if_neg c19] at H; exact absurd H (by simp)
              rw [if_pos c19] at H
              have c19b0 : decide (x31_2 < (t292.length : Int)) = true := decide_eq_true c19
              clear c19
              obtain ⟨ji20, hji20⟩ : ∃ j_ : Int, (wrap64 (x24_1 + x31_2)) = j_ := ⟨_, rfl⟩
              (first | rw [hji20] at H | simp only [hji20] at H)
              have hji20w : (IntKind.i64.wrap (x24_1 + x31_2)) = ji20 := (i64_w _).trans hji20
              by_cases c21 : 0 ≤ (ji20)
              case neg => rw [if_neg c21] at H; exact absurd H (by simp)
              rw [if_pos c21] at H
              have c21b0 : decide (0 ≤ (ji20)) = true := decide_eq_true c21
              clear c21
              by_cases c22 : (ji20) < (x5_2.length : Int)
              case neg => rw [if_neg c22] at H; exact absurd H (by simp)
              rw [if_pos c22] at H
              have c22b0 : decide ((ji20) < (x5_2.length : Int)) = true := decide_eq_true c22
              clear c22
              obtain ⟨y304, hy304⟩ : ∃ y_ : List Int, y_ = (x5_2.set ((ji20) : Int).toNat ((IntKind.u64.wrap ((IntKind.u64.wrap ((IntKind.u64.wrap ((IntKind.u64.wrap ((rd t289 x24_1))) * (IntKind.u64.wrap (rd t292 x31_2)))) + (IntKind.u64.wrap (rd x5_2 (ji20))))) + x8_2)) % 4294967296)) := ⟨_, rfl⟩
              replace H : (nat_Mul.l1 k2 t292 y304 x24_1 (rd t289 x24_1) ((IntKind.u64.wrap ((IntKind.u64.wrap ((IntKind.u64.wrap ((IntKind.u64.wrap ((rd t289 x24_1))) * (IntKind.u64.wrap (rd t292 x31_2)))) + (IntKind.u64.wrap (rd x5_2 (ji20))))) + x8_2)) / 4294967296) t289 (t289.length : Int) x24_1 t292 (t292.length : Int) (wrap64 (x31_2 + 1))) = some r := by first | (rw [hy304]; with_reducible exact H) | (rw [hy304]; exact H) | exact H
              have Ny304 := A0_ hy304
              clear hy304
              have H' := A0_ H
              clear H
              have p302 : 0 ≤ (x31_2 : Int) := od_
              have q302 : x31_2 < (t292.length : Int) := od_
              obtain ⟨ad302, e302, hx302_0⟩ := Kd.at_int (Kd.V_reads' HO_29.out).2.2 x31_2 p302 q302
              cases e302
              replace p302 := eq_true p302
              replace q302 := eq_true q302
              obtain ⟨Ao24, co24, eo24⟩ := Kd.R_slice HO_5.out
              subst eo24
              have p303 : 0 ≤ ((ji20) : Int) := od_
              have q303 : (ji20) < (x5_2.length : Int) := od_
              obtain ⟨ad303, e303, hx303_0⟩ := Kd.at_int (Kd.R_reads' HO_5.out).2.2 (ji20) p303 q303
              cases e303
              replace p303 := eq_true p303
              replace q303 := eq_true q303
              have p23 : 0 ≤ ((ji20) : Int) := od_
              have q23 : ((ji20) : Int) < ((x5_2.length : Int) : Int) := od_
              obtain ⟨go23, co23, eo23, gb23, gl23, cl23, HG23⟩ := Kd.R_form HO_5.out (by omega)
              (first | cases eo23 | (injection eo23 with ea_ en_ ec_; (first | subst ea_ | (injection ea_ with ea_; subst ea_)); subst ec_; clear en_))
              have GB23 := A0_ gb23
              have GG23 := A0_ HG23
              clear gb23 gl23 HG23
              (first | simp only [add_plain] at hx303_0 | skip)
              obtain ⟨hx23_0, hf23_0⟩ := Kd.R_celln 0 HO_5.out ((ji20) : Int) p23 q23
              replace p23 := eq_true p23
              replace q23 := eq_true q23
              have HP25 := Kd.R_putg HO_5.out ((ji20) : Int) ((IntKind.u64.wrap ((IntKind.u64.wrap ((IntKind.u64.wrap ((IntKind.u64.wrap ((rd t289 x24_1))) * (IntKind.u64.wrap (rd t292 x31_2)))) + (IntKind.u64.wrap (rd x5_2 (ji20))))) + x8_2)) % 4294967296)
              go_wp2_with (first | ((with_reducible refine gate_store (t := 37) (p := 59) rfl ?_); refine store_event (t := 37) (p := 59) (v := ?vo_w26) (w1 := (wr.setCell ⟨go23, ((ji20) : Int).toNat, none⟩ (.int .u32 ((IntKind.u64.wrap ((IntKind.u64.wrap ((IntKind.u64.wrap ((IntKind.u64.wrap ((rd t289 x24_1))) * (IntKind.u64.wrap (rd t292 x31_2)))) + (IntKind.u64.wrap (rd x5_2 (ji20))))) + x8_2)) % 4294967296)))) ?hg ?ho ?hn ?hr ?_; (case ho => rfl); (case hg => rfl); (case hn => rfl); (case hr => first | (go_simp; done) | (go_simp; rfl)); intro w26 hw; have hg : wr.grownBy w26 (some go23) := (by rw [hw]; exact HP25.2); have hp_ : Kd.R (Kd.int .u32) 37 w26 w.heap.size (fun k_ => (w.heap.size ≤ k_)) (.slice (some ⟨go23, 0, none⟩) x5_2.length co24) y304 := (by rw [hw, Ny304.out]; exact HP25.1); clear HP25; have n0_ := A0_ (Kd.V_afterv (v := (.slice (some ⟨go23, 0, none⟩) x5_2.length co24)) (v1 := (.slice (some ⟨go23, 0, none⟩) x5_2.length co24)) (ok := (fun k_ => ((P0_ k_ ∨ P1_ k_) ∨ w.heap.size ≤ k_))) (mvV HO_1.out) hg (.inl rfl)); have n1_ := A0_ (hp_); have n2_ := A0_ (Kd.V_afterv (v := (.slice (some ⟨go23, 0, none⟩) x5_2.length co24)) (v1 := (.slice (some ⟨go23, 0, none⟩) x5_2.length co24)) (ok := (fun k_ => ((P0_ k_ ∨ P1_ k_) ∨ w.heap.size ≤ k_))) (mvV HO_22.out) hg (.inl rfl)); have n3_ := A0_ (Kd.V_afterv (v := (.slice (some ⟨go23, 0, none⟩) x5_2.length co24)) (v1 := (.slice (some ⟨go23, 0, none⟩) x5_2.length co24)) (ok := (fun k_ => ((P0_ k_ ∨ P1_ k_) ∨ w.heap.size ≤ k_))) (mvV HO_29.out) hg (.inl rfl)); have n4_ := A0_ ((by rw [hw]; exact below_set (HB.out) GB23.out : Below w.heap.size w w26)); clear HO_1; clear HO_5; clear HO_22; clear HO_29; clear HB; have HO_1 := n0_; have HO_5 := n1_; have HO_22 := n2_; have HO_29 := n3_; have HB := n4_; clear n0_ n1_ n2_ n3_ n4_; clear hg hw hp_))
              go_roundg k2
              case measure => have := HK1.out; have := HK2.out; omega
              case rel => exact ⟨(y304), ((IntKind.u64.wrap ((IntKind.u64.wrap ((IntKind.u64.wrap ((IntKind.u64.wrap ((rd t289 x24_1))) * (IntKind.u64.wrap (rd t292 x31_2)))) + (IntKind.u64.wrap (rd x5_2 (ji20))))) + x8_2)) / 4294967296), (wrap64 (x31_2 + 1)), (by first | rfl | (simp; done) | (simp only [← hji20] <;> (first | rfl | simp)) | (simp [*]; done)), rs_, H', ⟨by have := HK1.out; have := HK2.out; omega⟩, ⟨mvV HO_1.out⟩, ⟨mvR HO_5.out⟩, ⟨mvV HO_22.out⟩, ⟨mvV HO_29.out⟩, ⟨bl_⟩⟩
            · rw [if_neg c17] at H
              have c17b0 : decide (x31_2 < (t292.length : Int)) = false := decide_eq_false c17
              clear c17
              obtain ⟨ji27, hji27⟩ : ∃ j_ : Int, (wrap64 (x24_1 + (t292.length : Int))) = j_ := ⟨_, rfl⟩
              (first | rw [hji27] at H | simp only [hji27] at H)
              have hji27w : (IntKind.i64.wrap (x24_1 + (t292.length : Int))) = ji27 := (i64_w _).trans hji27
              by_cases c28 : 0 ≤ (ji27)
              case neg => rw [if_neg c28] at H; exact absurd H (by simp)
              rw [if_pos c28] at H
              have c28b0 : decide (0 ≤ (ji27)) = true := decide_eq_true c28
              clear c28
              by_cases c29 : (ji27) < (x5_2.length : Int)
              case neg => rw [if_neg c29] at H; exact absurd H (by simp)
              rw [if_pos c29] at H
              have c29b0 : decide ((ji27) < (x5_2.length : Int)) = true := decide_eq_true c29
              clear c29
              obtain ⟨y305, hy305⟩ : ∃ y_ : List Int, y_ = (x5_2.set ((ji27) : Int).toNat ((x8_2) % 4294967296)) := ⟨_, rfl⟩
              replace H : (nat_Mul.l0 k2 t292 y305 t289 (t289.length : Int) (wrap64 (x24_1 + 1))) = some r := by first | (rw [hy305]; with_reducible exact H) | (rw [hy305]; exact H) | exact H
              have Ny305 := A0_ hy305
              clear hy305
              have H' := A0_ H
              clear H
              have p30 : 0 ≤ ((ji27) : Int) := od_
              have q30 : ((ji27) : Int) < ((x5_2.length : Int) : Int) := od_
              obtain ⟨go30, co30, eo30, gb30, gl30, cl30, HG30⟩ := Kd.R_form HO_5.out (by omega)
              (first | cases eo30 | (injection eo30 with ea_ en_ ec_; (first | subst ea_ | (injection ea_ with ea_; subst ea_)); subst ec_; clear en_))
              have GB30 := A0_ gb30
              have GG30 := A0_ HG30
              clear gb30 gl30 HG30
              obtain ⟨hx30_0, hf30_0⟩ := Kd.R_celln 0 HO_5.out ((ji27) : Int) p30 q30
              replace p30 := eq_true p30
              replace q30 := eq_true q30
              have HP31 := Kd.R_putg HO_5.out ((ji27) : Int) ((x8_2) % 4294967296)
              go_wp2_with (first | ((with_reducible refine gate_store (t := 37) (p := 68) rfl ?_); refine store_event (t := 37) (p := 68) (v := ?vo_w32) (w1 := (wr.setCell ⟨go30, ((ji27) : Int).toNat, none⟩ (.int .u32 ((x8_2) % 4294967296)))) ?hg ?ho ?hn ?hr ?_; (case ho => rfl); (case hg => rfl); (case hn => rfl); (case hr => first | (go_simp; done) | (go_simp; rfl)); intro w32 hw; have hg : wr.grownBy w32 (some go30) := (by rw [hw]; exact HP31.2); have hp_ : Kd.R (Kd.int .u32) 37 w32 w.heap.size (fun k_ => (w.heap.size ≤ k_)) (.slice (some ⟨go30, 0, none⟩) x5_2.length co30) y305 := (by rw [hw, Ny305.out]; exact HP31.1); clear HP31; have n0_ := A0_ (Kd.V_afterv (v := (.slice (some ⟨go30, 0, none⟩) x5_2.length co30)) (v1 := (.slice (some ⟨go30, 0, none⟩) x5_2.length co30)) (ok := (fun k_ => ((P0_ k_ ∨ P1_ k_) ∨ w.heap.size ≤ k_))) (mvV HO_1.out) hg (.inl rfl)); have n1_ := A0_ (hp_); have n2_ := A0_ (Kd.V_afterv (v := (.slice (some ⟨go30, 0, none⟩) x5_2.length co30)) (v1 := (.slice (some ⟨go30, 0, none⟩) x5_2.length co30)) (ok := (fun k_ => ((P0_ k_ ∨ P1_ k_) ∨ w.heap.size ≤ k_))) (mvV HO_22.out) hg (.inl rfl)); have n3_ := A0_ (Kd.V_afterv (v := (.slice (some ⟨go30, 0, none⟩) x5_2.length co30)) (v1 := (.slice (some ⟨go30, 0, none⟩) x5_2.length co30)) (ok := (fun k_ => ((P0_ k_ ∨ P1_ k_) ∨ w.heap.size ≤ k_))) (mvV HO_29.out) hg (.inl rfl)); have n4_ := A0_ ((by rw [hw]; exact below_set (HB.out) GB30.out : Below w.heap.size w w32)); clear HO_1; clear HO_5; clear HO_22; clear HO_29; clear HB; have HO_1 := n0_; have HO_5 := n1_; have HO_22 := n2_; have HO_29 := n3_; have HB := n4_; clear n0_ n1_ n2_ n3_ n4_; clear hg hw hp_))
              go_roundg k2
              case measure => have := HK1.out; have := HK2.out; omega
              case rel => exact ⟨(y305), (wrap64 (x24_1 + 1)), rs_, H', ⟨by have := HK1.out; have := HK2.out; omega⟩, ⟨mvV HO_1.out⟩, ⟨mvR HO_5.out⟩, ⟨mvV HO_22.out⟩, ⟨bl_⟩⟩
      · rw [if_neg c14] at H
        have c14b0 : decide (x24_1 < (t289.length : Int)) = false := decide_eq_false c14
        clear c14
        replace H := Option.bind_eq_some_iff.mp H
        obtain ⟨t298, A330, H⟩ := H
        (try dsimp only at H)
        have A33 := A0_ A330
        clear A330
        obtain rfl := Option.some.inj H
        obtain ⟨Ao34, co34, eo34⟩ := Kd.R_slice HO_5.out
        subst eo34
        go_wp2_with (first | ((with_reducible refine gate_callee (f := 40) rfl ?_); refine goesM_ (some 71) Try.func40 #[.slice Ao34 x5_1.length co34] rfl ?_; (with_reducible refine (nat_trim.calls k1 (fun k_ => some k_ = (.slice Ao34 x5_1.length co34 : Value).ownBlock) _ _ x5_1 t298 _ ?side1 A33.out).mono ?_); (case side1 => exact Kd.R_V (Kd.R_tight rfl (HO_5.out))); rintro e w35 ⟨v299, rfl, ho0, hb⟩; refine ⟨_, rfl, ?_⟩; have n0_ := A0_ (Kd.V_below (mvV HO_1.out) hb); have n1_ := A0_ (Kd.R_below (mvR HO_5.out) hb); have n2_ := A0_ (Kd.V_below (mvV HO_22.out) hb); have n3_ := A0_ (Kd.V_lower (Kd.V_mono (ok' := fun k_ => ((P0_ k_ ∨ P1_ k_) ∨ w.heap.size ≤ k_)) ho0 (fun k_ hk_ => Or.elim hk_ (fun hs_ => (.inr (((HO_5.out).1 k_ hs_.symm)))) (fun hn_ => (.inr (Nat.le_trans (below_size bl_) hn_))))) (below_size bl_)); have n4_ := A0_ (below_step bl_ hb); clear HO_1; clear HO_5; clear HO_22; clear HB; have HO_1 := n0_; have HO_5 := n1_; have HO_22 := n2_; have HO300 := n3_; have HB := n4_; clear n0_ n1_ n2_ n3_ n4_; (try clear hb); (try clear hb2); (try clear hk); (try clear hi); (try clear ho0)))
        go_ret
        exact ⟨_, by first | rfl | (simp [errW_none, errW_some] <;> rfl) | (simp only [← hji5]; first | rfl | (simp [errW_none, errW_some] <;> rfl)) | (simp [*, errW_none, errW_some] <;> rfl), mvV HO300.out, bl_⟩

/-! ### nat_Sub: function 26 -/
def nat_Sub.l0 : Nat → List Int → List Int → List Int → Int → Int → Int → Option (List Int × Bool)
  | 0, _, _, _, _, _, _ => none
  | k + 1, x0, x1, x6, x7, x23, x24 => if x24 < x23 then (if x24 < (x1.length : Int) then (if 0 ≤ x24 then (if x24 < (x0.length : Int) then ((bits_Sub32.f (rd x0 x24) (rd x1 x24) x7).bind fun bt317 => (if x24 < (x6.length : Int) then (nat_Sub.l0 k x0 x1 (x6.set (x24 : Int).toNat bt317.1) bt317.2 x23 (wrap64 (x24 + 1))) else (none))) else (none)) else (none)) else (if 0 ≤ x24 then (if x24 < (x0.length : Int) then ((bits_Sub32.f (rd x0 x24) 0 x7).bind fun bt321 => (if x24 < (x6.length : Int) then (nat_Sub.l0 k x0 x1 (x6.set (x24 : Int).toNat bt321.1) bt321.2 x23 (wrap64 (x24 + 1))) else (none))) else (none)) else (none))) else (if x7 > 0 then (some (([] : List Int), false)) else ((nat_trim.f k x6).bind fun t324 => (some (t324, true))))
def nat_Sub.f (k : Nat) (l0 : List Int) (l1 : List Int) : Option (List Int × Bool) := (nat_trim.f k l0).bind fun t306 => ((nat_trim.f k l1).bind fun t309 => (if (t306.length : Int) < (t309.length : Int) then (some (([] : List Int), false)) else (if 0 ≤ (t306.length : Int) then (if ((t306.length : Int) : Int).toNat ≤ 70368744177664 then (nat_Sub.l0 k t306 t309 (List.replicate ((t306.length : Int) : Int).toNat 0) 0 (t306.length : Int) 0) else (none)) else (none))))
theorem nat_Sub.mono_l : ∀ k, (∀ y0 y1 y2 y3 y4 y5, LeO (nat_Sub.l0 k y0 y1 y2 y3 y4 y5) (nat_Sub.l0 (k + 1) y0 y1 y2 y3 y4 y5))
  | 0 => fun _ _ _ _ _ _ r h => by simp [nat_Sub.l0] at h
  | k + 1 => by
    have ih0 := nat_Sub.mono_l k
    · intro y0 y1 y2 y3 y4 y5
      unfold nat_Sub.l0
      repeat' first
      | (with_reducible exact ih0 _ _ _ _ _ _)
      | (with_reducible exact nat_trim.mono _ _)
      | (with_reducible exact LeO.refl _)
      | (with_reducible exact LeO.none _)
      | (with_reducible refine LeO.ite ?_ ?_)
      | (with_reducible refine LeO.bind ?_ (fun _ => ?_))
      | exact ih0 _ _ _ _ _ _
      | exact nat_trim.mono _ _
      | exact LeO.none _
      | refine LeO.ite ?_ ?_
      | refine LeO.bind ?_ (fun _ => ?_)
theorem nat_Sub.mono : ∀ a0 a1 k, LeO (nat_Sub.f k a0 a1) (nat_Sub.f (k + 1) a0 a1) := by
  intro a0 a1 k
  have ih0 := nat_Sub.mono_l k
  unfold nat_Sub.f
  repeat' first
      | (with_reducible exact ih0 _ _ _ _ _ _)
      | (with_reducible exact nat_trim.mono _ _)
      | (with_reducible exact LeO.refl _)
      | (with_reducible exact LeO.none _)
      | (with_reducible refine LeO.ite ?_ ?_)
      | (with_reducible refine LeO.bind ?_ (fun _ => ?_))
      | exact ih0 _ _ _ _ _ _
      | exact nat_trim.mono _ _
      | exact LeO.none _
      | refine LeO.ite ?_ ?_
      | refine LeO.bind ?_ (fun _ => ?_)
set_option maxHeartbeats 8000000 in
set_option maxRecDepth 100000 in
theorem nat_Sub.calls (k : Nat) (P0_ : Nat → Prop) (A0 : Option Addr) (c0 : Nat) (l0 : List Int) (P1_ : Nat → Prop) (A1 : Option Addr) (c1 : Nat) (l1 : List Int) (r1 : List Int) (r2 : Bool) (w : World) (hs0 : Kd.V (Kd.int .u32) 37 w w.heap.size (fun k_ => P0_ k_) (.slice A0 l0.length c0) l0) (hs1 : Kd.V (Kd.int .u32) 37 w w.heap.size (fun k_ => P1_ k_) (.slice A1 l1.length c1) l1) (h : nat_Sub.f k l0 l1 = some (r1, r2)) :
    Calls Try.prog 26 #[.slice A0 l0.length c0, .slice A1 l1.length c1] w fun e w' => ∃ v0_ : Value, e = .returned (.tuple #[v0_, .bool r2]) ∧ Kd.V (Kd.int .u32) 37 w' w.heap.size (fun k_ => ((P0_ k_ ∨ P1_ k_) ∨ w.heap.size ≤ k_)) v0_ r1 ∧ Below w.heap.size w w' := by
  have HO0 := A0_ (show Kd.V (Kd.int .u32) 37 w w.heap.size (fun k_ => ((P0_ k_ ∨ P1_ k_) ∨ w.heap.size ≤ k_)) (.slice A0 l0.length c0) l0 from Kd.V_mono hs0 (fun k_ hk => .inl (.inl hk)))
  have HO1 := A0_ (show Kd.V (Kd.int .u32) 37 w w.heap.size (fun k_ => ((P0_ k_ ∨ P1_ k_) ∨ w.heap.size ≤ k_)) (.slice A1 l1.length c1) l1 from Kd.V_mono hs1 (fun k_ hk => .inl (.inr hk)))
  have HB := A0_ (Below.refl w.heap.size w)
  have H : ((nat_trim.f k l0).bind fun t306 => ((nat_trim.f k l1).bind fun t309 => (if (t306.length : Int) < (t309.length : Int) then (some (([] : List Int), false)) else (if 0 ≤ (t306.length : Int) then (if ((t306.length : Int) : Int).toNat ≤ 70368744177664 then (nat_Sub.l0 k t306 t309 (List.replicate ((t306.length : Int) : Int).toNat 0) 0 (t306.length : Int) 0) else (none)) else (none))))) = some (r1, r2) := h
  clear h
  replace H := Option.bind_eq_some_iff.mp H
  obtain ⟨t306, A30, H⟩ := H
  (try dsimp only at H)
  have A3 := A0_ A30
  clear A30
  replace H := Option.bind_eq_some_iff.mp H
  obtain ⟨t309, A40, H⟩ := H
  (try dsimp only at H)
  have A4 := A0_ A40
  clear A40
  by_cases c5 : (t306.length : Int) < (t309.length : Int)
  · rw [if_pos c5] at H
    have c5b0 : decide ((t306.length : Int) < (t309.length : Int)) = true := decide_eq_true c5
    have c5b1 : decide (t306.length < t309.length) = true := decide_eq_true (Int.ofNat_lt.mp c5)
    clear c5
    simp only [Option.some.injEq, Prod.mk.injEq] at H
    obtain ⟨rfl, rfl⟩ := H
    go_enter Try.func26, Try.ntmps26
    go_wp2_with (first | ((with_reducible refine gate_callee (f := 40) rfl ?_); refine goesM_ (some 11) Try.func40 #[.slice A0 l0.length c0] rfl ?_; (with_reducible refine (nat_trim.calls k (fun k_ => ((P0_ k_ ∨ P1_ k_) ∨ w.heap.size ≤ k_)) _ _ l0 t306 _ ?side1 A3.out).mono ?_); (case side1 => exact HO0.out); rintro e w6 ⟨v307, rfl, ho0, hb⟩; refine ⟨_, rfl, ?_⟩; have n0_ := A0_ (Kd.V_below (mvV HO0.out) hb); have n1_ := A0_ (Kd.V_below (mvV HO1.out) hb); have n2_ := A0_ (Kd.V_lower (Kd.V_mono (ok' := fun k_ => ((P0_ k_ ∨ P1_ k_) ∨ w.heap.size ≤ k_)) ho0 (fun k_ hk_ => Or.elim hk_ (fun hs_ => hs_) (fun hn_ => (.inr (Nat.le_trans (below_size bl_) hn_))))) (below_size bl_)); have n3_ := A0_ (below_step bl_ hb); clear HO0; clear HO1; clear HB; have HO0 := n0_; have HO1 := n1_; have HO308 := n2_; have HB := n3_; clear n0_ n1_ n2_ n3_; (try clear hb); (try clear hb2); (try clear hk); (try clear hi); (try clear ho0)) | ((with_reducible refine gate_callee (f := 40) rfl ?_); refine goesM_ (some 13) Try.func40 #[.slice A1 l1.length c1] rfl ?_; (with_reducible refine (nat_trim.calls k (fun k_ => ((P0_ k_ ∨ P1_ k_) ∨ w.heap.size ≤ k_)) _ _ l1 t309 _ ?side1 A4.out).mono ?_); (case side1 => exact HO1.out); rintro e w7 ⟨v310, rfl, ho0, hb⟩; refine ⟨_, rfl, ?_⟩; have n0_ := A0_ (Kd.V_below (mvV HO0.out) hb); have n1_ := A0_ (Kd.V_below (mvV HO1.out) hb); have n2_ := A0_ (Kd.V_below (mvV HO308.out) hb); have n3_ := A0_ (Kd.V_lower (Kd.V_mono (ok' := fun k_ => ((P0_ k_ ∨ P1_ k_) ∨ w.heap.size ≤ k_)) ho0 (fun k_ hk_ => Or.elim hk_ (fun hs_ => hs_) (fun hn_ => (.inr (Nat.le_trans (below_size bl_) hn_))))) (below_size bl_)); have n4_ := A0_ (below_step bl_ hb); clear HO0; clear HO1; clear HO308; clear HB; have HO0 := n0_; have HO1 := n1_; have HO308 := n2_; have HO311 := n3_; have HB := n4_; clear n0_ n1_ n2_ n3_ n4_; (try clear hb); (try clear hb2); (try clear hk); (try clear hi); (try clear ho0); obtain ⟨Ao8, co8, eo8⟩ := Kd.V_slice HO308.out; subst eo8; obtain ⟨Ao9, co9, eo9⟩ := Kd.V_slice HO311.out; subst eo9))
    go_ret2
    exact ⟨(.slice none 0 0), by first | rfl | (simp [errW_none, errW_some] <;> rfl) | (simp [*, errW_none, errW_some] <;> rfl), (Kd.V_nil _ _ _ _ _), bl_⟩
  · rw [if_neg c5] at H
    have c5b0 : decide ((t306.length : Int) < (t309.length : Int)) = false := decide_eq_false c5
    have c5b1 : decide (t306.length < t309.length) = false := decide_eq_false (fun h => c5 (Int.ofNat_lt.mpr h))
    clear c5
    by_cases c10 : 0 ≤ (t306.length : Int)
    case neg => rw [if_neg c10] at H; exact absurd H (by simp)
    rw [if_pos c10] at H
    have c10b0 := eq_true c10
    have c10b1 : decide (0 ≤ (t306.length : Int)) = true := decide_eq_true c10
    clear c10
    by_cases c11 : ((t306.length : Int) : Int).toNat ≤ 70368744177664
    case neg => rw [if_neg c11] at H; exact absurd H (by simp)
    rw [if_pos c11] at H
    have c11b0 := eq_true c11
    have c11b1 : decide (((t306.length : Int) : Int).toNat ≤ 70368744177664) = true := decide_eq_true c11
    clear c11
    obtain ⟨y312, hy312⟩ : ∃ y_ : List Int, y_ = (List.replicate ((t306.length : Int) : Int).toNat 0) := ⟨_, rfl⟩
    replace H : (nat_Sub.l0 k t306 t309 y312 0 (t306.length : Int) 0) = some (r1, r2) := by first | (rw [hy312]; with_reducible exact H) | (rw [hy312]; exact H) | exact H
    have Ny312 := A0_ hy312
    clear hy312
    have H' := A0_ H
    clear H
    go_enter Try.func26, Try.ntmps26
    go_wp2_with (first | ((with_reducible refine gate_callee (f := 40) rfl ?_); refine goesM_ (some 11) Try.func40 #[.slice A0 l0.length c0] rfl ?_; (with_reducible refine (nat_trim.calls k (fun k_ => ((P0_ k_ ∨ P1_ k_) ∨ w.heap.size ≤ k_)) _ _ l0 t306 _ ?side1 A3.out).mono ?_); (case side1 => exact HO0.out); rintro e w12 ⟨v307, rfl, ho0, hb⟩; refine ⟨_, rfl, ?_⟩; have n0_ := A0_ (Kd.V_below (mvV HO0.out) hb); have n1_ := A0_ (Kd.V_below (mvV HO1.out) hb); have n2_ := A0_ (Kd.V_lower (Kd.V_mono (ok' := fun k_ => ((P0_ k_ ∨ P1_ k_) ∨ w.heap.size ≤ k_)) ho0 (fun k_ hk_ => Or.elim hk_ (fun hs_ => hs_) (fun hn_ => (.inr (Nat.le_trans (below_size bl_) hn_))))) (below_size bl_)); have n3_ := A0_ (below_step bl_ hb); clear HO0; clear HO1; clear HB; have HO0 := n0_; have HO1 := n1_; have HO308 := n2_; have HB := n3_; clear n0_ n1_ n2_ n3_; (try clear hb); (try clear hb2); (try clear hk); (try clear hi); (try clear ho0)) | ((with_reducible refine gate_callee (f := 40) rfl ?_); refine goesM_ (some 13) Try.func40 #[.slice A1 l1.length c1] rfl ?_; (with_reducible refine (nat_trim.calls k (fun k_ => ((P0_ k_ ∨ P1_ k_) ∨ w.heap.size ≤ k_)) _ _ l1 t309 _ ?side1 A4.out).mono ?_); (case side1 => exact HO1.out); rintro e w13 ⟨v310, rfl, ho0, hb⟩; refine ⟨_, rfl, ?_⟩; have n0_ := A0_ (Kd.V_below (mvV HO0.out) hb); have n1_ := A0_ (Kd.V_below (mvV HO1.out) hb); have n2_ := A0_ (Kd.V_below (mvV HO308.out) hb); have n3_ := A0_ (Kd.V_lower (Kd.V_mono (ok' := fun k_ => ((P0_ k_ ∨ P1_ k_) ∨ w.heap.size ≤ k_)) ho0 (fun k_ hk_ => Or.elim hk_ (fun hs_ => hs_) (fun hn_ => (.inr (Nat.le_trans (below_size bl_) hn_))))) (below_size bl_)); have n4_ := A0_ (below_step bl_ hb); clear HO0; clear HO1; clear HO308; clear HB; have HO0 := n0_; have HO1 := n1_; have HO308 := n2_; have HO311 := n3_; have HB := n4_; clear n0_ n1_ n2_ n3_ n4_; (try clear hb); (try clear hb2); (try clear hk); (try clear hi); (try clear ho0); obtain ⟨Ao14, co14, eo14⟩ := Kd.V_slice HO308.out; subst eo14; obtain ⟨Ao15, co15, eo15⟩ := Kd.V_slice HO311.out; subst eo15) | ((with_reducible refine gate_dst (N := 21) rfl ?_); refine Kd.R_make (Kd.int .u32) _ 37 rfl (N := 21) rfl 22 _ _ rfl (t306.length : Int) rfl rfl Try.underlying22 (.int .u32 0) 4 info37 rfl (by decide) (by omega) 0 (ok := fun _ => True) (okp := fun _ => True) rfl (fun _ hk => hk) trivial od_ (Nat.le_trans (Nat.mul_le_mul_right _ (od_ : (t306.length : Int).toNat ≤ 70368744177664)) (by omega)) (Below.refl _ _) (Nat.le_refl _) ?_; intro v313 w16 ho17 hb hg_ hnew_; clear hg_ hnew_; (first | rw [← Ny312.out] at ho17 | (simp only [Int.reduceToNat] at ho17; rw [← Ny312.out] at ho17)); have n0_ := A0_ (Kd.V_elder' (mvV HO0.out) (Kd.R_base ho17) hb); have n1_ := A0_ (Kd.V_elder' (mvV HO1.out) (Kd.R_base ho17) hb); have n2_ := A0_ (Kd.V_elder' (mvV HO308.out) (Kd.R_base ho17) hb); have n3_ := A0_ (Kd.V_elder' (mvV HO311.out) (Kd.R_base ho17) hb); have n4_ := A0_ (Kd.R_lower (Kd.R_newM (M := fun k_ => (w.heap.size ≤ k_)) ho17 (below_size bl_) (fun k_ h_ => h_)) (below_size bl_)); have n5_ := A0_ (below_step bl_ hb); clear HO0; clear HO1; clear HO308; clear HO311; clear HB; have HO0 := n0_; have HO1 := n1_; have HO308 := n2_; have HO311 := n3_; have HO314 := n4_; have HB := n5_; clear n0_ n1_ n2_ n3_ n4_ n5_; clear hb ho17))
    go_loopg [7, 24] k (fun kq v7 v24 w' => ∃ (x6_1 : List Int) (x7_1 : Int) (x24_1 : Int), v7 = .int .u32 x7_1 ∧ v24 = .int .i64 x24_1 ∧ Aside0 (nat_Sub.l0 kq t306 t309 x6_1 x7_1 (t306.length : Int) x24_1 = some (r1, r2)) ∧ Aside0 (kq ≤ k) ∧ Aside0 (Kd.V (Kd.int .u32) 37 w' w.heap.size (fun k_ => ((P0_ k_ ∨ P1_ k_) ∨ w.heap.size ≤ k_) ∧ some k_ ≠ (v313 : Value).ownBlock) (.slice Ao14 t306.length co14) t306) ∧ Aside0 (Kd.V (Kd.int .u32) 37 w' w.heap.size (fun k_ => ((P0_ k_ ∨ P1_ k_) ∨ w.heap.size ≤ k_) ∧ some k_ ≠ (v313 : Value).ownBlock) (.slice Ao15 t309.length co15) t309) ∧ Aside0 (Kd.R (Kd.int .u32) 37 w' w.heap.size (fun k_ => (w.heap.size ≤ k_)) v313 x6_1) ∧ Aside0 (Below w.heap.size w w'))
    case atStart => exact ⟨(y312), (0), (0), rs_, rs_, H', ⟨Nat.le_refl _⟩, ⟨mvV HO308.out⟩, ⟨mvV HO311.out⟩, ⟨mvR (Kd.R_mono HO314.out (fun _ hk => hk.1))⟩, ⟨bl_⟩⟩
    case round =>
      clear H'
      (try clear c1); (try clear c2); (try clear p2); (try clear c4); (try clear c5); (try clear c5b0); (try clear c5b1); (try clear c10); (try clear c10b0); (try clear c10b1); (try clear c11); (try clear c11b0); (try clear c11b1)
      obtain ⟨x6_1, x7_1, x24_1, rfl, rfl, HA, HK1, HO_0, HO_1, HO_6, HB⟩ := hrel
      cases gk with
      | zero => exact absurd HA.out (by simp [nat_Sub.l0])
      | succ k1 =>
        have H := HA.out
        clear HA
        simp only [nat_Sub.l0] at H
        by_cases c18 : x24_1 < (t306.length : Int)
        · rw [if_pos c18] at H
          have c18b0 : decide (x24_1 < (t306.length : Int)) = true := decide_eq_true c18
          clear c18
          by_cases c19 : x24_1 < (t309.length : Int)
          · rw [if_pos c19] at H
            have c19b0 : decide (x24_1 < (t309.length : Int)) = true := decide_eq_true c19
            clear c19
            by_cases c20 : 0 ≤ x24_1
            case neg => rw [if_neg c20] at H; exact absurd H (by simp)
            rw [if_pos c20] at H
            have c20b0 : decide (0 ≤ x24_1) = true := decide_eq_true c20
            clear c20
            by_cases c21 : x24_1 < (t306.length : Int)
            case neg => rw [if_neg c21] at H; exact absurd H (by simp)
            rw [if_pos c21] at H
            have c21b0 : decide (x24_1 < (t306.length : Int)) = true := decide_eq_true c21
            clear c21
            replace H := Option.bind_eq_some_iff.mp H
            obtain ⟨⟨t317, t318⟩, A220, H⟩ := H
            (try dsimp only at H)
            have A22 := A0_ A220
            clear A220
            by_cases c23 : x24_1 < (x6_1.length : Int)
            case neg => rw [if_neg c23] at H; exact absurd H (by simp)
            rw [if_pos c23] at H
            have c23b0 : decide (x24_1 < (x6_1.length : Int)) = true := decide_eq_true c23
            clear c23
            obtain ⟨y319, hy319⟩ : ∃ y_ : List Int, y_ = (x6_1.set (x24_1 : Int).toNat t317) := ⟨_, rfl⟩
            replace H : (nat_Sub.l0 k1 t306 t309 y319 t318 (t306.length : Int) (wrap64 (x24_1 + 1))) = some (r1, r2) := by first | (rw [hy319]; with_reducible exact H) | (rw [hy319]; exact H) | exact H
            have Ny319 := A0_ hy319
            clear hy319
            have H' := A0_ H
            clear H
            have p315 : 0 ≤ (x24_1 : Int) := od_
            have q315 : x24_1 < (t309.length : Int) := od_
            obtain ⟨ad315, e315, hx315_0⟩ := Kd.at_int (Kd.V_reads' HO_1.out).2.2 x24_1 p315 q315
            cases e315
            replace p315 := eq_true p315
            replace q315 := eq_true q315
            have p316 : 0 ≤ (x24_1 : Int) := od_
            have q316 : x24_1 < (t306.length : Int) := od_
            obtain ⟨ad316, e316, hx316_0⟩ := Kd.at_int (Kd.V_reads' HO_0.out).2.2 x24_1 p316 q316
            cases e316
            replace p316 := eq_true p316
            replace q316 := eq_true q316
            go_wp2_with (first | ((with_reducible refine gate_callee (f := 44) rfl ?_); refine goesM_ (some 44) Try.func44 #[.int .u32 (rd t306 x24_1), .int .u32 (rd t309 x24_1), .int .u32 x7_1] rfl ?_; (with_reducible refine (bits_Sub32.calls (rd t306 x24_1) (rd t309 x24_1) x7_1 t317 t318 _ A22.out).mono ?_); rintro e w' ⟨rfl, ⟨nd, rfl⟩⟩; refine ⟨_, rfl, ?_⟩; (try (rw [drewN_self wr]; generalize hq_ : World.drewN wr _ = wr; have n0_ : Aside0 (Kd.V (Kd.int .u32) 37 wr w.heap.size (fun k_ => ((P0_ k_ ∨ P1_ k_) ∨ w.heap.size ≤ k_) ∧ some k_ ≠ (v313 : Value).ownBlock) (.slice (some ad316) t306.length co14) t306) := ⟨by rw [← hq_]; exact (mvV HO_0.out)⟩; have n1_ : Aside0 (Kd.V (Kd.int .u32) 37 wr w.heap.size (fun k_ => ((P0_ k_ ∨ P1_ k_) ∨ w.heap.size ≤ k_) ∧ some k_ ≠ (v313 : Value).ownBlock) (.slice (some ad315) t309.length co15) t309) := ⟨by rw [← hq_]; exact (mvV HO_1.out)⟩; have n2_ : Aside0 (Kd.R (Kd.int .u32) 37 wr w.heap.size (fun k_ => (w.heap.size ≤ k_)) v313 x6_1) := ⟨by rw [← hq_]; exact (mvR HO_6.out)⟩; have n3_ : Aside0 (Below w.heap.size w wr) := ⟨by rw [← hq_]; exact bl_⟩; clear HO_0 HO_1 HO_6 HB hq_; have HO_0 := n0_; have HO_1 := n1_; have HO_6 := n2_; have HB := n3_; clear n0_ n1_ n2_ n3_)); have p24 : 0 ≤ (x24_1 : Int) := od_; have q24 : (x24_1 : Int) < ((x6_1.length : Int) : Int) := od_; obtain ⟨go24, co24, eo24, gb24, gl24, cl24, HG24⟩ := Kd.R_form HO_6.out (by omega); (first | cases eo24 | (injection eo24 with ea_ en_ ec_; (first | subst ea_ | (injection ea_ with ea_; subst ea_)); subst ec_; clear en_)); have GB24 := A0_ gb24; have GG24 := A0_ HG24; clear gb24 gl24 HG24; obtain ⟨hx24_0, hf24_0⟩ := Kd.R_celln 0 HO_6.out (x24_1 : Int) p24 q24; replace p24 := eq_true p24; replace q24 := eq_true q24; obtain ⟨hy25_, hz25_⟩ := Kd.R_celln 0 HO_6.out (x24_1 : Int) od_ od_; have HP25 := Kd.R_putg HO_6.out (x24_1 : Int) t317) | ((with_reducible refine gate_store (t := 37) (p := 47) rfl ?_); refine store_event (t := 37) (p := 47) (v := ?vo_w26) (w1 := (wr.setCell ⟨go24, (x24_1 : Int).toNat, none⟩ (.int .u32 t317))) ?hg ?ho ?hn ?hr ?_; (case ho => rfl); (case hg => rfl); (case hn => rfl); (case hr => first | (go_simp; done) | (go_simp; rfl)); intro w26 hw; have hg : wr.grownBy w26 (some go24) := (by rw [hw]; exact HP25.2); have hp_ : Kd.R (Kd.int .u32) 37 w26 w.heap.size (fun k_ => (w.heap.size ≤ k_)) (.slice (some ⟨go24, 0, none⟩) x6_1.length co24) y319 := (by rw [hw, Ny319.out]; exact HP25.1); clear HP25; have n0_ := A0_ (Kd.V_afterv (v := (.slice (some ⟨go24, 0, none⟩) x6_1.length co24)) (v1 := (.slice (some ⟨go24, 0, none⟩) x6_1.length co24)) (ok := (fun k_ => ((P0_ k_ ∨ P1_ k_) ∨ w.heap.size ≤ k_))) (mvV HO_0.out) hg (.inl rfl)); have n1_ := A0_ (Kd.V_afterv (v := (.slice (some ⟨go24, 0, none⟩) x6_1.length co24)) (v1 := (.slice (some ⟨go24, 0, none⟩) x6_1.length co24)) (ok := (fun k_ => ((P0_ k_ ∨ P1_ k_) ∨ w.heap.size ≤ k_))) (mvV HO_1.out) hg (.inl rfl)); have n2_ := A0_ (hp_); have n3_ := A0_ ((by rw [hw]; exact below_set (HB.out) GB24.out : Below w.heap.size w w26)); clear HO_0; clear HO_1; clear HO_6; clear HB; have HO_0 := n0_; have HO_1 := n1_; have HO_6 := n2_; have HB := n3_; clear n0_ n1_ n2_ n3_; clear hg hw hp_))
            go_roundg k1
            case measure => have := HK1.out; omega
            case rel => exact ⟨(y319), (t318), (wrap64 (x24_1 + 1)), rs_, rs_, H', ⟨by have := HK1.out; omega⟩, ⟨mvV HO_0.out⟩, ⟨mvV HO_1.out⟩, ⟨mvR HO_6.out⟩, ⟨bl_⟩⟩
          · rw [if_neg c19] at H
            have c19b0 : decide (x24_1 < (t309.length : Int)) = false := decide_eq_false c19
            clear c19
            by_cases c27 : 0 ≤ x24_1
            case neg => rw [if_neg c27] at H; exact absurd H (by simp)
            rw [if_pos c27] at H
            have c27b0 : decide (0 ≤ x24_1) = true := decide_eq_true c27
            clear c27
            by_cases c28 : x24_1 < (t306.length : Int)
            case neg => rw [if_neg c28] at H; exact absurd H (by simp)
            rw [if_pos c28] at H
            have c28b0 : decide (x24_1 < (t306.length : Int)) = true := decide_eq_true c28
            clear c28
            replace H := Option.bind_eq_some_iff.mp H
            obtain ⟨⟨t321, t322⟩, A290, H⟩ := H
            (try dsimp only at H)
            have A29 := A0_ A290
            clear A290
            by_cases c30 : x24_1 < (x6_1.length : Int)
            case neg => rw [if_neg c30] at H; exact absurd H (by simp)
            rw [if_pos c30] at H
            have c30b0 : decide (x24_1 < (x6_1.length : Int)) = true := decide_eq_true c30
            clear c30
            obtain ⟨y323, hy323⟩ : ∃ y_ : List Int, y_ = (x6_1.set (x24_1 : Int).toNat t321) := ⟨_, rfl⟩
            replace H : (nat_Sub.l0 k1 t306 t309 y323 t322 (t306.length : Int) (wrap64 (x24_1 + 1))) = some (r1, r2) := by first | (rw [hy323]; with_reducible exact H) | (rw [hy323]; exact H) | exact H
            have Ny323 := A0_ hy323
            clear hy323
            have H' := A0_ H
            clear H
            have p320 : 0 ≤ (x24_1 : Int) := od_
            have q320 : x24_1 < (t306.length : Int) := od_
            obtain ⟨ad320, e320, hx320_0⟩ := Kd.at_int (Kd.V_reads' HO_0.out).2.2 x24_1 p320 q320
            cases e320
            replace p320 := eq_true p320
            replace q320 := eq_true q320
            go_wp2_with (first | ((with_reducible refine gate_callee (f := 44) rfl ?_); refine goesM_ (some 44) Try.func44 #[.int .u32 (rd t306 x24_1), .int .u32 0, .int .u32 x7_1] rfl ?_; (with_reducible refine (bits_Sub32.calls (rd t306 x24_1) 0 x7_1 t321 t322 _ A29.out).mono ?_); rintro e w' ⟨rfl, ⟨nd, rfl⟩⟩; refine ⟨_, rfl, ?_⟩; (try (rw [drewN_self wr]; generalize hq_ : World.drewN wr _ = wr; have n0_ : Aside0 (Kd.V (Kd.int .u32) 37 wr w.heap.size (fun k_ => ((P0_ k_ ∨ P1_ k_) ∨ w.heap.size ≤ k_) ∧ some k_ ≠ (v313 : Value).ownBlock) (.slice (some ad320) t306.length co14) t306) := ⟨by rw [← hq_]; exact (mvV HO_0.out)⟩; have n1_ : Aside0 (Kd.V (Kd.int .u32) 37 wr w.heap.size (fun k_ => ((P0_ k_ ∨ P1_ k_) ∨ w.heap.size ≤ k_) ∧ some k_ ≠ (v313 : Value).ownBlock) (.slice Ao15 t309.length co15) t309) := ⟨by rw [← hq_]; exact (mvV HO_1.out)⟩; have n2_ : Aside0 (Kd.R (Kd.int .u32) 37 wr w.heap.size (fun k_ => (w.heap.size ≤ k_)) v313 x6_1) := ⟨by rw [← hq_]; exact (mvR HO_6.out)⟩; have n3_ : Aside0 (Below w.heap.size w wr) := ⟨by rw [← hq_]; exact bl_⟩; clear HO_0 HO_1 HO_6 HB hq_; have HO_0 := n0_; have HO_1 := n1_; have HO_6 := n2_; have HB := n3_; clear n0_ n1_ n2_ n3_)); have p31 : 0 ≤ (x24_1 : Int) := od_; have q31 : (x24_1 : Int) < ((x6_1.length : Int) : Int) := od_; obtain ⟨go31, co31, eo31, gb31, gl31, cl31, HG31⟩ := Kd.R_form HO_6.out (by omega); (first | cases eo31 | (injection eo31 with ea_ en_ ec_; (first | subst ea_ | (injection ea_ with ea_; subst ea_)); subst ec_; clear en_)); have GB31 := A0_ gb31; have GG31 := A0_ HG31; clear gb31 gl31 HG31; obtain ⟨hx31_0, hf31_0⟩ := Kd.R_celln 0 HO_6.out (x24_1 : Int) p31 q31; replace p31 := eq_true p31; replace q31 := eq_true q31; obtain ⟨hy32_, hz32_⟩ := Kd.R_celln 0 HO_6.out (x24_1 : Int) od_ od_; have HP32 := Kd.R_putg HO_6.out (x24_1 : Int) t321) | ((with_reducible refine gate_store (t := 37) (p := 47) rfl ?_); refine store_event (t := 37) (p := 47) (v := ?vo_w33) (w1 := (wr.setCell ⟨go31, (x24_1 : Int).toNat, none⟩ (.int .u32 t321))) ?hg ?ho ?hn ?hr ?_; (case ho => rfl); (case hg => rfl); (case hn => rfl); (case hr => first | (go_simp; done) | (go_simp; rfl)); intro w33 hw; have hg : wr.grownBy w33 (some go31) := (by rw [hw]; exact HP32.2); have hp_ : Kd.R (Kd.int .u32) 37 w33 w.heap.size (fun k_ => (w.heap.size ≤ k_)) (.slice (some ⟨go31, 0, none⟩) x6_1.length co31) y323 := (by rw [hw, Ny323.out]; exact HP32.1); clear HP32; have n0_ := A0_ (Kd.V_afterv (v := (.slice (some ⟨go31, 0, none⟩) x6_1.length co31)) (v1 := (.slice (some ⟨go31, 0, none⟩) x6_1.length co31)) (ok := (fun k_ => ((P0_ k_ ∨ P1_ k_) ∨ w.heap.size ≤ k_))) (mvV HO_0.out) hg (.inl rfl)); have n1_ := A0_ (Kd.V_afterv (v := (.slice (some ⟨go31, 0, none⟩) x6_1.length co31)) (v1 := (.slice (some ⟨go31, 0, none⟩) x6_1.length co31)) (ok := (fun k_ => ((P0_ k_ ∨ P1_ k_) ∨ w.heap.size ≤ k_))) (mvV HO_1.out) hg (.inl rfl)); have n2_ := A0_ (hp_); have n3_ := A0_ ((by rw [hw]; exact below_set (HB.out) GB31.out : Below w.heap.size w w33)); clear HO_0; clear HO_1; clear HO_6; clear HB; have HO_0 := n0_; have HO_1 := n1_; have HO_6 := n2_; have HB := n3_; clear n0_ n1_ n2_ n3_; clear hg hw hp_))
            go_roundg k1
            case measure => have := HK1.out; omega
            case rel => exact ⟨(y323), (t322), (wrap64 (x24_1 + 1)), rs_, rs_, H', ⟨by have := HK1.out; omega⟩, ⟨mvV HO_0.out⟩, ⟨mvV HO_1.out⟩, ⟨mvR HO_6.out⟩, ⟨bl_⟩⟩
        · rw [if_neg c18] at H
          have c18b0 : decide (x24_1 < (t306.length : Int)) = false := decide_eq_false c18
          clear c18
          by_cases c34 : x7_1 > 0
          · rw [if_pos c34] at H
            have c34b0 : decide (0 < x7_1) = true := decide_eq_true c34
            clear c34
            simp only [Option.some.injEq, Prod.mk.injEq] at H
            obtain ⟨rfl, rfl⟩ := H
            go_wp2
            go_ret2
            exact ⟨(.slice none 0 0), by first | rfl | (simp [errW_none, errW_some] <;> rfl) | (simp [*, errW_none, errW_some] <;> rfl), (Kd.V_nil _ _ _ _ _), bl_⟩
          · rw [if_neg c34] at H
            have c34b0 : decide (0 < x7_1) = false := decide_eq_false c34
            clear c34
            replace H := Option.bind_eq_some_iff.mp H
            obtain ⟨t324, A350, H⟩ := H
            (try dsimp only at H)
            have A35 := A0_ A350
            clear A350
            simp only [Option.some.injEq, Prod.mk.injEq] at H
            obtain ⟨rfl, rfl⟩ := H
            obtain ⟨Ao36, co36, eo36⟩ := Kd.R_slice HO_6.out
            subst eo36
            go_wp2_with (first | ((with_reducible refine gate_callee (f := 40) rfl ?_); refine goesM_ (some 52) Try.func40 #[.slice Ao36 x6_1.length co36] rfl ?_; (with_reducible refine (nat_trim.calls k1 (fun k_ => some k_ = (.slice Ao36 x6_1.length co36 : Value).ownBlock) _ _ x6_1 t324 _ ?side1 A35.out).mono ?_); (case side1 => exact Kd.R_V (Kd.R_tight rfl (HO_6.out))); rintro e w37 ⟨v325, rfl, ho0, hb⟩; refine ⟨_, rfl, ?_⟩; have n0_ := A0_ (Kd.V_below (mvV HO_0.out) hb); have n1_ := A0_ (Kd.V_below (mvV HO_1.out) hb); have n2_ := A0_ (Kd.R_below (mvR HO_6.out) hb); have n3_ := A0_ (Kd.V_lower (Kd.V_mono (ok' := fun k_ => ((P0_ k_ ∨ P1_ k_) ∨ w.heap.size ≤ k_)) ho0 (fun k_ hk_ => Or.elim hk_ (fun hs_ => (.inr (((HO_6.out).1 k_ hs_.symm)))) (fun hn_ => (.inr (Nat.le_trans (below_size bl_) hn_))))) (below_size bl_)); have n4_ := A0_ (below_step bl_ hb); clear HO_0; clear HO_1; clear HO_6; clear HB; have HO_0 := n0_; have HO_1 := n1_; have HO_6 := n2_; have HO326 := n3_; have HB := n4_; clear n0_ n1_ n2_ n3_ n4_; (try clear hb); (try clear hb2); (try clear hk); (try clear hi); (try clear ho0)))
            go_ret2
            exact ⟨_, by first | rfl | (simp [errW_none, errW_some] <;> rfl) | (simp [*, errW_none, errW_some] <;> rfl), mvV HO326.out, bl_⟩

end Go.Proofs.Ytohkjfdcmiiehaa.P
