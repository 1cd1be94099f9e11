/- What the Go functions of these names come to, as plain Lean functions, and the walks that show it. Written for this claim by a turned copy of the print program; Lean checks it. -/
import Derived.Test.YtohkjfdcmiiehaaP0
import Derived.Test.YtohkjfdcmiiehaaP1
namespace Go.Proofs.Ytohkjfdcmiiehaa.P
open Go.RowKit Go.Proofs.YtohkjfdcmiiehaaW.PrintWords Go.Proofs.YtohkjfdcmiiehaaW.PrintLast Go.Proofs.YtohkjfdcmiiehaaW.PrintMore
attribute [local go_sem] max2_int min2_int max_two min_two max_three min_three max_four min_four   -- for this text's walks alone
set_option linter.unusedVariables false
set_option linter.unusedSimpArgs false

/-! ### nat_Shl: function 24 -/
mutual
def nat_Shl.j0 : Nat → List Int → Int → Bool → Option (List Int × Bool)
  | 0, _, _, _ => none
  | k + 1, x0, x1, x15 => if x15 = true then (some (([] : List Int), false)) else ((nat_trim.f k x0).bind fun t140 => (if 0 ≤ (wrap64 ((wrap64 ((wrap64 (Int.tdiv x1 32)) + (t140.length : Int))) + 1)) then (if (wrap64 ((wrap64 ((wrap64 (Int.tdiv x1 32)) + (t140.length : Int))) + 1) : Int).toNat ≤ 70368744177664 then (nat_Shl.l0 k x1 (List.replicate (wrap64 ((wrap64 ((wrap64 (Int.tdiv x1 32)) + (t140.length : Int))) + 1) : Int).toNat 0) t140 (t140.length : Int) 0) else (none)) else (none)))
def nat_Shl.l0 : Nat → Int → List Int → List Int → Int → Int → Option (List Int × Bool)
  | 0, _, _, _, _, _ => none
  | k + 1, x1, x6, x25, x26, x27 => if x27 < x26 then (if 0 ≤ x27 then (if x27 < (x25.length : Int) then (if 0 ≤ (Int.tmod x1 32) then (if 0 ≤ (wrap64 ((wrap64 (Int.tdiv x1 32)) + x27)) then (if (wrap64 ((wrap64 (Int.tdiv x1 32)) + x27)) < (x6.length : Int) then (if 0 ≤ (wrap64 ((wrap64 ((wrap64 (Int.tdiv x1 32)) + x27)) + 1)) then (if (wrap64 ((wrap64 ((wrap64 (Int.tdiv x1 32)) + x27)) + 1)) < (x6.length : Int) then (nat_Shl.l0 k x1 ((x6.set ((wrap64 ((wrap64 (Int.tdiv x1 32)) + x27)) : Int).toNat (Go.bits .or .u32 (rd x6 (wrap64 ((wrap64 (Int.tdiv x1 32)) + x27))) ((shl .u64 (IntKind.u64.wrap (rd x25 x27)) (Int.tmod x1 32)) % 4294967296))).set ((wrap64 ((wrap64 ((wrap64 (Int.tdiv x1 32)) + x27)) + 1)) : Int).toNat (((shl .u64 (IntKind.u64.wrap (rd x25 x27)) (Int.tmod x1 32)) / 4294967296) % 4294967296)) x25 x26 (wrap64 (x27 + 1))) else (none)) else (none)) else (none)) else (none)) else (none)) else (none)) else (none)) else ((nat_trim.f k x6).bind fun t150 => (some (t150, true)))
end
def nat_Shl.f (k : Nat) (l0 : List Int) (a1 : Int) : Option (List Int × Bool) := if a1 < 0 then (nat_Shl.j0 k l0 a1 true) else (nat_Shl.j0 k l0 a1 (decide (a1 > 100000)))
theorem nat_Shl.mono_l : ∀ k, (∀ y0 y1 y2, LeO (nat_Shl.j0 k y0 y1 y2) (nat_Shl.j0 (k + 1) y0 y1 y2)) ∧ (∀ y0 y1 y2 y3 y4, LeO (nat_Shl.l0 k y0 y1 y2 y3 y4) (nat_Shl.l0 (k + 1) y0 y1 y2 y3 y4))
  | 0 => ⟨fun _ _ _ r h => by simp [nat_Shl.j0] at h, fun _ _ _ _ _ r h => by simp [nat_Shl.l0] at h⟩
  | k + 1 => by
    obtain ⟨ih0, ih1⟩ := nat_Shl.mono_l k
    refine ⟨?_, ?_⟩
    · intro y0 y1 y2
      unfold nat_Shl.j0
      repeat' first
      | (with_reducible exact ih0 _ _ _)
      | (with_reducible exact ih1 _ _ _ _ _)
      | (with_reducible exact nat_trim.mono _ _)
      | (with_reducible exact LeO.refl _)
      | (with_reducible exact LeO.none _)
      | (with_reducible refine LeO.ite ?_ ?_)
      | (with_reducible refine LeO.bind ?_ (fun _ => ?_))
      | exact ih0 _ _ _
      | exact ih1 _ _ _ _ _
      | exact nat_trim.mono _ _
      | exact LeO.none _
      | refine LeO.ite ?_ ?_
      | refine LeO.bind ?_ (fun _ => ?_)
    · intro y0 y1 y2 y3 y4
      unfold nat_Shl.l0
      repeat' first
      | (with_reducible exact ih0 _ _ _)
      | (with_reducible exact ih1 _ _ _ _ _)
      | (with_reducible exact nat_trim.mono _ _)
      | (with_reducible exact LeO.refl _)
      | (with_reducible exact LeO.none _)
      | (with_reducible refine LeO.ite ?_ ?_)
      | (with_reducible refine LeO.bind ?_ (fun _ => ?_))
      | exact ih0 _ _ _
      | exact ih1 _ _ _ _ _
      | exact nat_trim.mono _ _
      | exact LeO.none _
      | refine LeO.ite ?_ ?_
      | refine LeO.bind ?_ (fun _ => ?_)
theorem nat_Shl.mono : ∀ a0 a1 k, LeO (nat_Shl.f k a0 a1) (nat_Shl.f (k + 1) a0 a1) := by
  intro a0 a1 k
  obtain ⟨ih0, ih1⟩ := nat_Shl.mono_l k
  unfold nat_Shl.f
  repeat' first
      | (with_reducible exact ih0 _ _ _)
      | (with_reducible exact ih1 _ _ _ _ _)
      | (with_reducible exact nat_trim.mono _ _)
      | (with_reducible exact LeO.refl _)
      | (with_reducible exact LeO.none _)
      | (with_reducible refine LeO.ite ?_ ?_)
      | (with_reducible refine LeO.bind ?_ (fun _ => ?_))
      | exact ih0 _ _ _
      | exact ih1 _ _ _ _ _
      | exact nat_trim.mono _ _
      | exact LeO.none _
      | refine LeO.ite ?_ ?_
      | refine LeO.bind ?_ (fun _ => ?_)
set_option maxHeartbeats 8000000 in
set_option maxRecDepth 100000 in
theorem nat_Shl.calls (k : Nat) (P0_ : Nat → Prop) (A0 : Option Addr) (c0 : Nat) (l0 : List Int) (a1 : Int) (r1 : List Int) (r2 : Bool) (w : World) (hs0 : Kd.V (Kd.int .u32) 37 w w.heap.size (fun k_ => P0_ k_) (.slice A0 l0.length c0) l0) (h : nat_Shl.f k l0 a1 = some (r1, r2)) :
    Calls Try.prog 24 #[.slice A0 l0.length c0, .int .i64 a1] w fun e w' => ∃ v0_ : Value, e = .returned (.tuple #[v0_, .bool r2]) ∧ Kd.V (Kd.int .u32) 37 w' w.heap.size (fun k_ => (P0_ k_ ∨ w.heap.size ≤ k_)) v0_ r1 ∧ Below w.heap.size w w' := by
  have HO0 := A0_ (show Kd.V (Kd.int .u32) 37 w w.heap.size (fun k_ => (P0_ k_ ∨ w.heap.size ≤ k_)) (.slice A0 l0.length c0) l0 from Kd.V_mono hs0 (fun k_ hk => .inl hk))
  have HB := A0_ (Below.refl w.heap.size w)
  have H : (if a1 < 0 then (nat_Shl.j0 k l0 a1 true) else (nat_Shl.j0 k l0 a1 (decide (a1 > 100000)))) = some (r1, r2) := h
  clear h
  have HC3 := A0_ H
  clear H
  go_enter Try.func24, Try.ntmps24
  go_upto_region 1 with (fail)
  go_cut [15] (fun v15 wc => ∃ (kq : Nat) (x15_2 : Bool), v15 = .bool x15_2 ∧ Aside0 (nat_Shl.j0 kq l0 a1 x15_2 = some (r1, r2)) ∧ Aside0 (kq ≤ k) ∧ Aside0 (Kd.V (Kd.int .u32) 37 wc w.heap.size (fun k_ => (P0_ k_ ∨ w.heap.size ≤ k_)) (.slice A0 l0.length c0) l0) ∧ Aside0 (Below w.heap.size w wc))
  case first =>
    have H := HC3.out
    clear HC3
    by_cases c4 : a1 < 0
    · rw [if_pos c4] at H
      have c4b0 : decide (a1 < 0) = true := decide_eq_true c4
      clear c4
      (first | rw [c4b0] | (simp only [i64_w, i32_w]; rw [c4b0]) | rw [c4b1] | skip)
      have H' := A0_ H
      clear H
      go_wp2
      go_meet
      case rel => exact ⟨_, (true), rs_, H', ⟨by first | omega | exact Nat.le_refl _⟩, ⟨mvV HO0.out⟩, ⟨bl_⟩⟩
    · rw [if_neg c4] at H
      have c4b0 : decide (a1 < 0) = false := decide_eq_false c4
      clear c4
      (first | rw [c4b0] | (simp only [i64_w, i32_w]; rw [c4b0]) | rw [c4b1] | skip)
      have H' := A0_ H
      clear H
      go_wp2
      go_meet
      case rel => exact ⟨_, (decide (a1 > 100000)), rs_, H', ⟨by first | omega | exact Nat.le_refl _⟩, ⟨mvV HO0.out⟩, ⟨bl_⟩⟩
  case rest =>
    clear HC3
    (try clear c2); (try clear p2); (try clear c4); (try clear c4b0); (try clear c4b1)
    obtain ⟨kq, x15_2, rfl, HA, HJ2, HO_0, HB⟩ := hcut
    cases kq with
    | zero => exact absurd HA.out (by simp [nat_Shl.j0])
    | succ kj2 =>
      have H := HA.out
      clear HA
      simp only [nat_Shl.j0] at H
      by_cases c5 : x15_2 = true
      · subst c5
        have H1 : (some (([] : List Int), false)) = some (r1, r2) := by rw [if_pos rfl] at H; exact H
        clear H
        have H := H1
        clear H1
        simp only [Option.some.injEq, Prod.mk.injEq] at H
        obtain ⟨rfl, rfl⟩ := H
        go_wp2
        go_ret2
        exact ⟨(.slice none 0 0), by first | rfl | (simp [errW_none, errW_some] <;> rfl) | (simp [*, errW_none, errW_some] <;> rfl), (Kd.V_nil _ _ _ _ _), bl_⟩
      · replace c5 := Bool.eq_false_iff.mpr c5
        subst c5
        have H1 : ((nat_trim.f kj2 l0).bind fun t140 => (if 0 ≤ (wrap64 ((wrap64 ((wrap64 (Int.tdiv a1 32)) + (t140.length : Int))) + 1)) then (if (wrap64 ((wrap64 ((wrap64 (Int.tdiv a1 32)) + (t140.length : Int))) + 1) : Int).toNat ≤ 70368744177664 then (nat_Shl.l0 kj2 a1 (List.replicate (wrap64 ((wrap64 ((wrap64 (Int.tdiv a1 32)) + (t140.length : Int))) + 1) : Int).toNat 0) t140 (t140.length : Int) 0) else (none)) else (none))) = some (r1, r2) := by rw [if_neg (show ¬ (false = true) by decide)] at H; exact H
        clear H
        have H := H1
        clear H1
        replace H := Option.bind_eq_some_iff.mp H
        obtain ⟨t140, A60, H⟩ := H
        (try dsimp only at H)
        have A6 := A0_ A60
        clear A60
        obtain ⟨ji7, hji7⟩ : ∃ j_ : Int, (wrap64 ((wrap64 ((wrap64 (Int.tdiv a1 32)) + (t140.length : Int))) + 1)) = j_ := ⟨_, rfl⟩
        (first | rw [hji7] at H | simp only [hji7] at H)
        (try rw [hji7] at A6)
        have hji7w : (IntKind.i64.wrap ((wrap64 ((wrap64 (Int.tdiv a1 32)) + (t140.length : Int))) + 1)) = ji7 := (i64_w _).trans hji7
        by_cases c8 : 0 ≤ (ji7)
        case neg => rw [if_neg c8] at H; exact absurd H (by simp)
        rw [if_pos c8] at H
        have c8b0 := eq_true c8
        have c8b1 : decide (0 ≤ (ji7)) = true := decide_eq_true c8
        clear c8
        by_cases c9 : (ji7 : Int).toNat ≤ 70368744177664
        case neg => rw [if_neg c9] at H; exact absurd H (by simp)
        rw [if_pos c9] at H
        have c9b0 := eq_true c9
        have c9b1 : decide ((ji7 : Int).toNat ≤ 70368744177664) = true := decide_eq_true c9
        clear c9
        obtain ⟨y143, hy143⟩ : ∃ y_ : List Int, y_ = (List.replicate (ji7 : Int).toNat 0) := ⟨_, rfl⟩
        replace H : (nat_Shl.l0 kj2 a1 y143 t140 (t140.length : Int) 0) = some (r1, r2) := by first | (rw [hy143]; with_reducible exact H) | (rw [hy143]; exact H) | exact H
        have Ny143 := A0_ hy143
        clear hy143
        have H' := A0_ H
        clear H
        go_wp2_with (first | ((with_reducible refine gate_callee (f := 40) rfl ?_); refine goesM_ (some 17) Try.func40 #[.slice A0 l0.length c0] rfl ?_; (with_reducible refine (nat_trim.calls kj2 (fun k_ => (P0_ k_ ∨ w.heap.size ≤ k_)) _ _ l0 t140 _ ?side1 A6.out).mono ?_); (case side1 => exact HO_0.out); rintro e w10 ⟨v141, rfl, ho0, hb⟩; refine ⟨_, rfl, ?_⟩; have n0_ := A0_ (Kd.V_below (mvV HO_0.out) hb); have n1_ := A0_ (Kd.V_lower (Kd.V_mono (ok' := fun k_ => (P0_ k_ ∨ w.heap.size ≤ k_)) ho0 (fun k_ hk_ => Or.elim hk_ (fun hs_ => hs_) (fun hn_ => (.inr (Nat.le_trans (below_size bl_) hn_))))) (below_size bl_)); have n2_ := A0_ (below_step bl_ hb); clear HO_0; clear HB; have HO_0 := n0_; have HO142 := n1_; have HB := n2_; clear n0_ n1_ n2_; (try clear hb); (try clear hb2); (try clear hk); (try clear hi); (try clear ho0); obtain ⟨Ao11, co11, eo11⟩ := Kd.V_slice HO142.out; subst eo11) | ((with_reducible refine gate_dst (N := 24) rfl ?_); refine Kd.R_make (Kd.int .u32) _ 37 rfl (N := 24) rfl 22 _ _ rfl ji7 rfl rfl Try.underlying22 (.int .u32 0) 4 info37 rfl (by decide) (by omega) 0 (ok := fun _ => True) (okp := fun _ => True) rfl (fun _ hk => hk) trivial od_ (Nat.le_trans (Nat.mul_le_mul_right _ (od_ : ji7.toNat ≤ 70368744177664)) (by omega)) (Below.refl _ _) (Nat.le_refl _) ?_; intro v144 w12 ho13 hb hg_ hnew_; clear hg_ hnew_; (first | rw [← Ny143.out] at ho13 | (simp only [Int.reduceToNat] at ho13; rw [← Ny143.out] at ho13)); have n0_ := A0_ (Kd.V_elder' (mvV HO_0.out) (Kd.R_base ho13) hb); have n1_ := A0_ (Kd.V_elder' (mvV HO142.out) (Kd.R_base ho13) hb); have n2_ := A0_ (Kd.R_lower (Kd.R_newM (M := fun k_ => (w.heap.size ≤ k_)) ho13 (below_size bl_) (fun k_ h_ => h_)) (below_size bl_)); have n3_ := A0_ (below_step bl_ hb); clear HO_0; clear HO142; clear HB; have HO_0 := n0_; have HO142 := n1_; have HO145 := n2_; have HB := n3_; clear n0_ n1_ n2_ n3_; clear hb ho13))
        go_loopg [27] kj2 (fun kq v27 w' => ∃ (x6_2 : List Int) (x27_2 : Int), v27 = .int .i64 x27_2 ∧ Aside0 (nat_Shl.l0 kq a1 x6_2 t140 (t140.length : Int) x27_2 = some (r1, r2)) ∧ Aside0 (kq ≤ kj2) ∧ Aside0 (Kd.R (Kd.int .u32) 37 w' w.heap.size (fun k_ => (w.heap.size ≤ k_)) v144 x6_2) ∧ Aside0 (Kd.V (Kd.int .u32) 37 w' w.heap.size (fun k_ => (P0_ k_ ∨ w.heap.size ≤ k_) ∧ some k_ ≠ (v144 : Value).ownBlock) (.slice Ao11 t140.length co11) t140) ∧ Aside0 (Below w.heap.size w w'))
        case atStart => exact ⟨(y143), (0), rs_, H', ⟨Nat.le_refl _⟩, ⟨mvR (Kd.R_mono HO145.out (fun _ hk => hk.1))⟩, ⟨mvV HO142.out⟩, ⟨bl_⟩⟩
        case round =>
          clear H'
          (try clear c2); (try clear p2); (try clear c4); (try clear c4b0); (try clear c4b1); (try clear c5); (try clear p6); (try clear c8); (try clear c8b0); (try clear c8b1); (try clear c9); (try clear c9b0); (try clear c9b1); (try clear p2)
          obtain ⟨x6_2, x27_2, rfl, HA, HK2, HO_6, HO_25, HB⟩ := hrel
          cases gk with
          | zero => exact absurd HA.out (by simp [nat_Shl.l0])
          | succ k2 =>
            have H := HA.out
            clear HA
            simp only [nat_Shl.l0] at H
            by_cases c14 : x27_2 < (t140.length : Int)
            · rw [if_pos c14] at H
              have c14b0 : decide (x27_2 < (t140.length : Int)) = true := decide_eq_true c14
              clear c14
              by_cases c15 : 0 ≤ x27_2
              case neg => rw [if_neg c15] at H; exact absurd H (by simp)
              rw [if_pos c15] at H
              have c15b0 : decide (0 ≤ x27_2) = true := decide_eq_true c15
              clear c15
              by_cases c16 : x27_2 < (t140.length : Int)
              case neg => rw [if_neg c16] at H; exact absurd H (by simp)
              rw [if_pos c16] at H
              have c16b0 : decide (x27_2 < (t140.length : Int)) = true := decide_eq_true c16
              clear c16
              obtain ⟨ji17, hji17⟩ : ∃ j_ : Int, (Int.tmod a1 32) = j_ := ⟨_, rfl⟩
              (first | rw [hji17] at H | simp only [hji17] at H)
              by_cases c18 : 0 ≤ (ji17)
              case neg => rw [if_neg c18] at H; exact absurd H (by simp)
              rw [if_pos c18] at H
              have c18b0 := eq_true c18
              have c18b1 : decide (0 ≤ (ji17)) = true := decide_eq_true c18
              clear c18
              obtain ⟨ji19, hji19⟩ : ∃ j_ : Int, (shl .u64 (IntKind.u64.wrap (rd t140 x27_2)) (ji17)) = j_ := ⟨_, rfl⟩
              (first | rw [hji19] at H | simp only [hji19] at H)
              have hji19_ : (IntKind.u64.wrap ((IntKind.u64.wrap (rd t140 x27_2)) * 2 ^ min (ji17).toNat 64)) = ji19 := hji19
              have hji19z : (ji17) ≤ 64 → (IntKind.u64.wrap ((IntKind.u64.wrap (rd t140 x27_2)) * 2 ^ (ji17).toNat)) = ji19 := shl_small hji19
              obtain ⟨ji20, hji20⟩ : ∃ j_ : Int, (wrap64 ((wrap64 (Int.tdiv a1 32)) + x27_2)) = j_ := ⟨_, rfl⟩
              (first | rw [hji20] at H | simp only [hji20] at H)
              have hji20w : (IntKind.i64.wrap ((wrap64 (Int.tdiv a1 32)) + x27_2)) = ji20 := (i64_w _).trans hji20
              by_cases c21 : 0 ≤ (ji20)
              case neg => rw [if_neg c21] at H; exact absurd H (by simp)
              rw [if_pos c21] at H
              have c21b0 : decide (0 ≤ (ji20)) = true := decide_eq_true c21
              clear c21
              by_cases c22 : (ji20) < (x6_2.length : Int)
              case neg => rw [if_neg c22] at H; exact absurd H (by simp)
              rw [if_pos c22] at H
              have c22b0 : decide ((ji20) < (x6_2.length : Int)) = true := decide_eq_true c22
              clear c22
              obtain ⟨y148, hy148⟩ : ∃ y_ : List Int, y_ = (x6_2.set ((ji20) : Int).toNat (Go.bits .or .u32 (rd x6_2 (ji20)) ((ji19) % 4294967296))) := ⟨_, rfl⟩
              replace H : (if 0 ≤ (wrap64 ((ji20) + 1)) then (if (wrap64 ((ji20) + 1)) < (x6_2.length : Int) then (nat_Shl.l0 k2 a1 (y148.set ((wrap64 ((ji20) + 1)) : Int).toNat (((ji19) / 4294967296) % 4294967296)) t140 (t140.length : Int) (wrap64 (x27_2 + 1))) else (none)) else (none)) = some (r1, r2) := by first | (rw [hy148]; with_reducible exact H) | (rw [hy148]; exact H) | exact H
              have Ny148 := A0_ hy148
              clear hy148
              obtain ⟨ji24, hji24⟩ : ∃ j_ : Int, (wrap64 ((ji20) + 1)) = j_ := ⟨_, rfl⟩
              (first | rw [hji24] at H | simp only [hji24] at H)
              have hji24w : (IntKind.i64.wrap ((ji20) + 1)) = ji24 := (i64_w _).trans hji24
              by_cases c25 : 0 ≤ (ji24)
              case neg => rw [if_neg c25] at H; exact absurd H (by simp)
              rw [if_pos c25] at H
              have c25b0 : decide (0 ≤ (ji24)) = true := decide_eq_true c25
              clear c25
              by_cases c26 : (ji24) < (x6_2.length : Int)
              case neg => rw [if_neg c26] at H; exact absurd H (by simp)
              rw [if_pos c26] at H
              have c26b0 : decide ((ji24) < (x6_2.length : Int)) = true := decide_eq_true c26
              clear c26
              obtain ⟨y149, hy149⟩ : ∃ y_ : List Int, y_ = (y148.set ((ji24) : Int).toNat (((ji19) / 4294967296) % 4294967296)) := ⟨_, rfl⟩
              replace H : (nat_Shl.l0 k2 a1 y149 t140 (t140.length : Int) (wrap64 (x27_2 + 1))) = some (r1, r2) := by first | (rw [hy149]; with_reducible exact H) | (rw [hy149]; exact H) | exact H
              have Ny149 := A0_ hy149
              clear hy149
              have H' := A0_ H
              clear H
              have p146 : 0 ≤ (x27_2 : Int) := od_
              have q146 : x27_2 < (t140.length : Int) := od_
              obtain ⟨ad146, e146, hx146_0⟩ := Kd.at_int (Kd.V_reads' HO_25.out).2.2 x27_2 p146 q146
              cases e146
              replace p146 := eq_true p146
              replace q146 := eq_true q146
              obtain ⟨Ao28, co28, eo28⟩ := Kd.R_slice HO_6.out
              subst eo28
              have p147 : 0 ≤ ((ji20) : Int) := od_
              have q147 : (ji20) < (x6_2.length : Int) := od_
              obtain ⟨ad147, e147, hx147_0⟩ := Kd.at_int (Kd.R_reads' HO_6.out).2.2 (ji20) p147 q147
              cases e147
              replace p147 := eq_true p147
              replace q147 := eq_true q147
              have p23 : 0 ≤ ((ji20) : Int) := od_
              have q23 : ((ji20) : Int) < ((x6_2.length : Int) : Int) := od_
              obtain ⟨go23, co23, eo23, gb23, gl23, cl23, HG23⟩ := Kd.R_form HO_6.out (by omega)
              (first | cases eo23 | (injection eo23 with ea_ en_ ec_; (first | subst ea_ | (injection ea_ with ea_; subst ea_)); subst ec_; clear en_))
              have GB23 := A0_ gb23
              have GG23 := A0_ HG23
              clear gb23 gl23 HG23
              (first | simp only [add_plain] at hx147_0 | skip)
              obtain ⟨hx23_0, hf23_0⟩ := Kd.R_celln 0 HO_6.out ((ji20) : Int) p23 q23
              replace p23 := eq_true p23
              replace q23 := eq_true q23
              have HP29 := Kd.R_putg HO_6.out ((ji20) : Int) (Go.bits .or .u32 (rd x6_2 (ji20)) ((ji19) % 4294967296))
              go_wp2_with (first | ((with_reducible refine gate_store (t := 37) (p := 47) rfl ?_); refine store_event (t := 37) (p := 47) (v := ?vo_w30) (w1 := (wr.setCell ⟨go23, ((ji20) : Int).toNat, none⟩ (.int .u32 (Go.bits .or .u32 (rd x6_2 (ji20)) ((ji19) % 4294967296))))) ?hg ?ho ?hn ?hr ?_; (case ho => rfl); (case hg => rfl); (case hn => rfl); (case hr => first | (go_simp; done) | (go_simp; rfl)); intro w30 hw; have hg : wr.grownBy w30 (some go23) := (by rw [hw]; exact HP29.2); have hp_ : Kd.R (Kd.int .u32) 37 w30 w.heap.size (fun k_ => (w.heap.size ≤ k_)) (.slice (some ⟨go23, 0, none⟩) x6_2.length co28) y148 := (by rw [hw, Ny148.out]; exact HP29.1); clear HP29; have n0_ := A0_ (hp_); have n1_ := A0_ (Kd.V_afterv (v := (.slice (some ⟨go23, 0, none⟩) x6_2.length co28)) (v1 := (.slice (some ⟨go23, 0, none⟩) x6_2.length co28)) (ok := (fun k_ => (P0_ k_ ∨ w.heap.size ≤ k_))) (mvV HO_25.out) hg (.inl rfl)); have n2_ := A0_ ((by rw [hw]; exact below_set (HB.out) GB23.out : Below w.heap.size w w30)); clear HO_6; clear HO_25; clear HB; have HO_6 := n0_; have HO_25 := n1_; have HB := n2_; clear n0_ n1_ n2_; clear hg hw hp_; have p27 : 0 ≤ ((ji24) : Int) := od_; have q27 : ((ji24) : Int) < ((x6_2.length : Int) : Int) := od_; obtain ⟨hx27_0, hf27_0⟩ := Kd.R_celln 0 HO_6.out ((ji24) : Int) p27 q27; replace p27 := eq_true p27; replace q27 := eq_true q27; obtain ⟨hy31_, hz31_⟩ := Kd.R_celln 0 HO_6.out ((ji24) : Int) od_ od_; have HP31 := Kd.R_putg HO_6.out ((ji24) : Int) (((ji19) / 4294967296) % 4294967296)) | ((with_reducible refine gate_store (t := 37) (p := 57) rfl ?_); refine store_event (t := 37) (p := 57) (v := ?vo_w32) (w1 := (w30.setCell ⟨go23, ((ji24) : Int).toNat, none⟩ (.int .u32 (((ji19) / 4294967296) % 4294967296)))) ?hg ?ho ?hn ?hr ?_; (case ho => rfl); (case hg => rfl); (case hn => rfl); (case hr => first | (go_simp; done) | (go_simp; rfl)); intro w32 hw; have hg : w30.grownBy w32 (some go23) := (by rw [hw]; exact HP31.2); have hp_ : Kd.R (Kd.int .u32) 37 w32 w.heap.size (fun k_ => (w.heap.size ≤ k_)) (.slice (some ⟨go23, 0, none⟩) x6_2.length co28) y149 := (by rw [hw, Ny149.out]; exact HP31.1); clear HP31; have n0_ := A0_ (hp_); have n1_ := A0_ (Kd.V_afterv (v := (.slice (some ⟨go23, 0, none⟩) x6_2.length co28)) (v1 := (.slice (some ⟨go23, 0, none⟩) x6_2.length co28)) (ok := (fun k_ => (P0_ k_ ∨ w.heap.size ≤ k_))) (mvV HO_25.out) hg (.inl rfl)); have n2_ := A0_ ((by rw [hw]; exact below_set (HB.out) GB23.out : Below w.heap.size w w32)); clear HO_6; clear HO_25; clear HB; have HO_6 := n0_; have HO_25 := n1_; have HB := n2_; clear n0_ n1_ n2_; clear hg hw hp_))
              go_roundg k2
              case measure => have := HJ2.out; have := HK2.out; omega
              case rel => exact ⟨(y149), (wrap64 (x27_2 + 1)), rs_, H', ⟨by have := HJ2.out; have := HK2.out; omega⟩, ⟨mvR HO_6.out⟩, ⟨mvV HO_25.out⟩, ⟨bl_⟩⟩
            · rw [if_neg c14] at H
              have c14b0 : decide (x27_2 < (t140.length : Int)) = false := decide_eq_false c14
              clear c14
              replace H := Option.bind_eq_some_iff.mp H
              obtain ⟨t150, A330, H⟩ := H
              (try dsimp only at H)
              have A33 := A0_ A330
              clear A330
              simp only [Option.some.injEq, Prod.mk.injEq] at H
              obtain ⟨rfl, rfl⟩ := H
              obtain ⟨Ao34, co34, eo34⟩ := Kd.R_slice HO_6.out
              subst eo34
              go_wp2_with (first | ((with_reducible refine gate_callee (f := 40) rfl ?_); refine goesM_ (some 60) Try.func40 #[.slice Ao34 x6_2.length co34] rfl ?_; (with_reducible refine (nat_trim.calls k2 (fun k_ => some k_ = (.slice Ao34 x6_2.length co34 : Value).ownBlock) _ _ x6_2 t150 _ ?side1 A33.out).mono ?_); (case side1 => exact Kd.R_V (Kd.R_tight rfl (HO_6.out))); rintro e w35 ⟨v151, rfl, ho0, hb⟩; refine ⟨_, rfl, ?_⟩; have n0_ := A0_ (Kd.R_below (mvR HO_6.out) hb); have n1_ := A0_ (Kd.V_below (mvV HO_25.out) hb); have n2_ := A0_ (Kd.V_lower (Kd.V_mono (ok' := fun k_ => (P0_ k_ ∨ w.heap.size ≤ k_)) ho0 (fun k_ hk_ => Or.elim hk_ (fun hs_ => (.inr (((HO_6.out).1 k_ hs_.symm)))) (fun hn_ => (.inr (Nat.le_trans (below_size bl_) hn_))))) (below_size bl_)); have n3_ := A0_ (below_step bl_ hb); clear HO_6; clear HO_25; clear HB; have HO_6 := n0_; have HO_25 := n1_; have HO152 := n2_; have HB := n3_; clear n0_ n1_ n2_ n3_; (try clear hb); (try clear hb2); (try clear hk); (try clear hi); (try clear ho0)))
              go_ret2
              exact ⟨_, by first | rfl | (simp [errW_none, errW_some] <;> rfl) | (simp only [← hji7]; first | rfl | (simp [errW_none, errW_some] <;> rfl)) | (simp [*, errW_none, errW_some] <;> rfl), mvV HO152.out, bl_⟩

/-! ### nat_Shr: function 25 -/
def nat_Shr.l0 : Nat → List Int → Int → List Int → Int → Int → Option (List Int)
  | 0, _, _, _, _, _ => none
  | k + 1, x0, x1, x5, x27, x28 => if x28 < x27 then (if 0 ≤ x28 then (if x28 < (x0.length : Int) then (if (wrap64 (x28 + 1)) < (x0.length : Int) then (if 0 ≤ (wrap64 (x28 + 1)) then (if 0 ≤ (Int.tmod x1 32) then (if x28 < (x5.length : Int) then (nat_Shr.l0 k x0 x1 (x5.set (x28 : Int).toNat ((shr .u64 (Go.bits .or .u64 (IntKind.u64.wrap (rd x0 x28)) (IntKind.u64.wrap ((IntKind.u64.wrap (rd x0 (wrap64 (x28 + 1)))) * 4294967296))) (Int.tmod x1 32)) % 4294967296)) x27 (wrap64 (x28 + 1))) else (none)) else (none)) else (none)) else (if 0 ≤ (Int.tmod x1 32) then (if x28 < (x5.length : Int) then (nat_Shr.l0 k x0 x1 (x5.set (x28 : Int).toNat ((shr .u64 (IntKind.u64.wrap (rd x0 x28)) (Int.tmod x1 32)) % 4294967296)) x27 (wrap64 (x28 + 1))) else (none)) else (none))) else (none)) else (none)) else ((nat_trim.f k x5).bind fun t171 => (some t171))
def nat_Shr.f (k : Nat) (l0 : List Int) (a1 : Int) : Option (List Int) := (nat_trim.f k l0).bind fun t153 => (if a1 < 0 then ((slices_Clone_uint32_uint32.f t153).bind fun t156 => (some t156)) else (if (wrap64 (Int.tdiv a1 32)) ≥ (t153.length : Int) then (some ([] : List Int)) else (if 0 ≤ (wrap64 (Int.tdiv a1 32)) then (if (wrap64 (Int.tdiv a1 32)) ≤ (t153.length : Int) then ((some (t153.drop ((wrap64 (Int.tdiv a1 32)) : Int).toNat : List Int)).bind fun y159 => (if 0 ≤ (y159.length : Int) then (if ((y159.length : Int) : Int).toNat ≤ 70368744177664 then (nat_Shr.l0 k y159 a1 (List.replicate ((y159.length : Int) : Int).toNat 0) (y159.length : Int) 0) else (none)) else (none))) else (none)) else (none))))
theorem nat_Shr.mono_l : ∀ k, (∀ y0 y1 y2 y3 y4, LeO (nat_Shr.l0 k y0 y1 y2 y3 y4) (nat_Shr.l0 (k + 1) y0 y1 y2 y3 y4))
  | 0 => fun _ _ _ _ _ r h => by simp [nat_Shr.l0] at h
  | k + 1 => by
    have ih0 := nat_Shr.mono_l k
    · intro y0 y1 y2 y3 y4
      unfold nat_Shr.l0
      repeat' first
      | (with_reducible exact ih0 _ _ _ _ _)
      | (with_reducible exact nat_trim.mono _ _)
      | (with_reducible exact LeO.refl _)
      | (with_reducible exact LeO.none _)
      | (with_reducible refine LeO.ite ?_ ?_)
      | (with_reducible refine LeO.bind ?_ (fun _ => ?_))
      | exact ih0 _ _ _ _ _
      | exact nat_trim.mono _ _
      | exact LeO.none _
      | refine LeO.ite ?_ ?_
      | refine LeO.bind ?_ (fun _ => ?_)
theorem nat_Shr.mono : ∀ a0 a1 k, LeO (nat_Shr.f k a0 a1) (nat_Shr.f (k + 1) a0 a1) := by
  intro a0 a1 k
  have ih0 := nat_Shr.mono_l k
  unfold nat_Shr.f
  repeat' first
      | (with_reducible exact ih0 _ _ _ _ _)
      | (with_reducible exact nat_trim.mono _ _)
      | (with_reducible exact LeO.refl _)
      | (with_reducible exact LeO.none _)
      | (with_reducible refine LeO.ite ?_ ?_)
      | (with_reducible refine LeO.bind ?_ (fun _ => ?_))
      | exact ih0 _ _ _ _ _
      | exact nat_trim.mono _ _
      | exact LeO.none _
      | refine LeO.ite ?_ ?_
      | refine LeO.bind ?_ (fun _ => ?_)
set_option maxHeartbeats 8000000 in
set_option maxRecDepth 100000 in
theorem nat_Shr.calls (k : Nat) (P0_ : Nat → Prop) (A0 : Option Addr) (c0 : Nat) (l0 : List Int) (a1 : Int) (r : List Int) (w : World) (hs0 : Kd.V (Kd.int .u32) 37 w w.heap.size (fun k_ => P0_ k_) (.slice A0 l0.length c0) l0) (h : nat_Shr.f k l0 a1 = some r) :
    Calls Try.prog 25 #[.slice A0 l0.length c0, .int .i64 a1] w fun e w' => ∃ v0_ : Value, e = .returned (v0_) ∧ Kd.V (Kd.int .u32) 37 w' w.heap.size (fun k_ => (P0_ k_ ∨ w.heap.size ≤ k_)) v0_ r ∧ Below w.heap.size w w' := by
  have HO0 := A0_ (show Kd.V (Kd.int .u32) 37 w w.heap.size (fun k_ => (P0_ k_ ∨ w.heap.size ≤ k_)) (.slice A0 l0.length c0) l0 from Kd.V_mono hs0 (fun k_ hk => .inl hk))
  have HB := A0_ (Below.refl w.heap.size w)
  have H : ((nat_trim.f k l0).bind fun t153 => (if a1 < 0 then ((slices_Clone_uint32_uint32.f t153).bind fun t156 => (some t156)) else (if (wrap64 (Int.tdiv a1 32)) ≥ (t153.length : Int) then (some ([] : List Int)) else (if 0 ≤ (wrap64 (Int.tdiv a1 32)) then (if (wrap64 (Int.tdiv a1 32)) ≤ (t153.length : Int) then ((some (t153.drop ((wrap64 (Int.tdiv a1 32)) : Int).toNat : List Int)).bind fun y159 => (if 0 ≤ (y159.length : Int) then (if ((y159.length : Int) : Int).toNat ≤ 70368744177664 then (nat_Shr.l0 k y159 a1 (List.replicate ((y159.length : Int) : Int).toNat 0) (y159.length : Int) 0) else (none)) else (none))) else (none)) else (none))))) = some r := h
  clear h
  replace H := Option.bind_eq_some_iff.mp H
  obtain ⟨t153, A30, H⟩ := H
  (try dsimp only at H)
  have A3 := A0_ A30
  clear A30
  by_cases c4 : a1 < 0
  · rw [if_pos c4] at H
    have c4b0 : decide (a1 < 0) = true := decide_eq_true c4
    clear c4
    replace H := Option.bind_eq_some_iff.mp H
    obtain ⟨t156, A50, H⟩ := H
    (try dsimp only at H)
    have A5 := A0_ A50
    clear A50
    obtain rfl := Option.some.inj H
    go_enter Try.func25, Try.ntmps25
    go_wp2_with (first | ((with_reducible refine gate_callee (f := 40) rfl ?_); refine goesM_ (some 9) Try.func40 #[.slice A0 l0.length c0] rfl ?_; (with_reducible refine (nat_trim.calls k (fun k_ => (P0_ k_ ∨ w.heap.size ≤ k_)) _ _ l0 t153 _ ?side1 A3.out).mono ?_); (case side1 => exact HO0.out); rintro e w6 ⟨v154, rfl, ho0, hb⟩; refine ⟨_, rfl, ?_⟩; have n0_ := A0_ (Kd.V_below (mvV HO0.out) hb); have n1_ := A0_ (Kd.V_lower (Kd.V_mono (ok' := fun k_ => (P0_ k_ ∨ w.heap.size ≤ k_)) ho0 (fun k_ hk_ => Or.elim hk_ (fun hs_ => hs_) (fun hn_ => (.inr (Nat.le_trans (below_size bl_) hn_))))) (below_size bl_)); have n2_ := A0_ (below_step bl_ hb); clear HO0; clear HB; have HO0 := n0_; have HO155 := n1_; have HB := n2_; clear n0_ n1_ n2_; (try clear hb); (try clear hb2); (try clear hk); (try clear hi); (try clear ho0); obtain ⟨Ao7, co7, eo7⟩ := Kd.V_slice HO155.out; subst eo7) | ((with_reducible refine gate_callee (f := 43) rfl ?_); refine goesM_ (some 13) Try.func43 #[.slice Ao7 t153.length co7] rfl ?_; (with_reducible refine (slices_Clone_uint32_uint32.calls _ _ t153 t156 _ ?side1 ?side2 A5.out).mono ?_); (case side1 => exact mvC (Kd.V_reads' HO155.out).2.2); (case side2 => exact (Kd.V_reads' HO155.out).2.1); rintro e w8 ⟨v157, rfl, ho0, hb⟩; refine ⟨_, rfl, ?_⟩; have n0_ := A0_ (Kd.V_elder' (mvV HO0.out) (Kd.R_base ho0) hb); have n1_ := A0_ (Kd.V_elder' (mvV HO155.out) (Kd.R_base ho0) hb); have n2_ := A0_ (Kd.R_lower (Kd.R_newM (M := fun k_ => (w.heap.size ≤ k_)) ho0 (below_size bl_) (fun k_ h_ => h_)) (below_size bl_)); have n3_ := A0_ (below_step bl_ hb); clear HO0; clear HO155; clear HB; have HO0 := n0_; have HO155 := n1_; have HO158 := n2_; have HB := n3_; clear n0_ n1_ n2_ n3_; (try clear hb); (try clear hb2); (try clear hk); (try clear hi); (try clear ho0)))
    go_ret
    exact ⟨_, by first | rfl | (simp [errW_none, errW_some] <;> rfl) | (simp [*, errW_none, errW_some] <;> rfl), Kd.V_mono (Kd.R_V (mvR (Kd.R_mono HO158.out (fun _ hk => hk.1)))) (fun k_ hk => by first | exact ⟨(.inr (hk.1)), hk.2⟩ | exact (.inr (hk))), bl_⟩
  · rw [if_neg c4] at H
    have c4b0 : decide (a1 < 0) = false := decide_eq_false c4
    clear c4
    by_cases c9 : (wrap64 (Int.tdiv a1 32)) ≥ (t153.length : Int)
    · rw [if_pos c9] at H
      have c9b0 : decide ((t153.length : Int) ≤ (wrap64 (Int.tdiv a1 32))) = true := decide_eq_true c9
      clear c9
      obtain rfl := Option.some.inj H
      go_enter Try.func25, Try.ntmps25
      go_wp2_with (first | ((with_reducible refine gate_callee (f := 40) rfl ?_); refine goesM_ (some 9) Try.func40 #[.slice A0 l0.length c0] rfl ?_; (with_reducible refine (nat_trim.calls k (fun k_ => (P0_ k_ ∨ w.heap.size ≤ k_)) _ _ l0 t153 _ ?side1 A3.out).mono ?_); (case side1 => exact HO0.out); rintro e w10 ⟨v154, rfl, ho0, hb⟩; refine ⟨_, rfl, ?_⟩; have n0_ := A0_ (Kd.V_below (mvV HO0.out) hb); have n1_ := A0_ (Kd.V_lower (Kd.V_mono (ok' := fun k_ => (P0_ k_ ∨ w.heap.size ≤ k_)) ho0 (fun k_ hk_ => Or.elim hk_ (fun hs_ => hs_) (fun hn_ => (.inr (Nat.le_trans (below_size bl_) hn_))))) (below_size bl_)); have n2_ := A0_ (below_step bl_ hb); clear HO0; clear HB; have HO0 := n0_; have HO155 := n1_; have HB := n2_; clear n0_ n1_ n2_; (try clear hb); (try clear hb2); (try clear hk); (try clear hi); (try clear ho0); obtain ⟨Ao11, co11, eo11⟩ := Kd.V_slice HO155.out; subst eo11))
      go_ret
      exact ⟨(.slice none 0 0), by first | rfl | (simp [errW_none, errW_some] <;> rfl) | (simp [*, errW_none, errW_some] <;> rfl), (Kd.V_nil _ _ _ _ _), bl_⟩
    · rw [if_neg c9] at H
      have c9b0 : decide ((t153.length : Int) ≤ (wrap64 (Int.tdiv a1 32))) = false := decide_eq_false c9
      clear c9
      obtain ⟨ji12, hji12⟩ : ∃ j_ : Int, (wrap64 (Int.tdiv a1 32)) = j_ := ⟨_, rfl⟩
      (first | rw [hji12] at H | simp only [hji12] at H)
      (try rw [hji12] at c9b0)
      (try rw [hji12] at A3)
      have hji12w : (IntKind.i64.wrap (Int.tdiv a1 32)) = ji12 := (i64_w _).trans hji12
      by_cases c13 : 0 ≤ (ji12)
      case neg => rw [if_neg c13] at H; exact absurd H (by simp)
      rw [if_pos c13] at H
      have c13b0 := eq_true c13
      have c13b1 : decide (0 ≤ (ji12)) = true := decide_eq_true c13
      clear c13
      by_cases c14 : (ji12) ≤ (t153.length : Int)
      case neg => rw [if_neg c14] at H; exact absurd H (by simp)
      rw [if_pos c14] at H
      have c14b0 := eq_true c14
      have c14b1 : decide ((ji12) ≤ (t153.length : Int)) = true := decide_eq_true c14
      clear c14
      obtain ⟨y159, hy159⟩ : ∃ y_ : List Int, y_ = (t153.drop ((ji12) : Int).toNat) := ⟨_, rfl⟩
      replace H : (if 0 ≤ (y159.length : Int) then (if ((y159.length : Int) : Int).toNat ≤ 70368744177664 then (nat_Shr.l0 k y159 a1 (List.replicate ((y159.length : Int) : Int).toNat 0) (y159.length : Int) 0) else (none)) else (none)) = some r := by first | (rw [hy159]; with_reducible exact H) | (rw [hy159]; exact H) | exact H
      have Ny159 := A0_ hy159
      clear hy159
      by_cases c15 : 0 ≤ (y159.length : Int)
      case neg => rw [if_neg c15] at H; exact absurd H (by simp)
      rw [if_pos c15] at H
      have c15b0 := eq_true c15
      have c15b1 : decide (0 ≤ (y159.length : Int)) = true := decide_eq_true c15
      clear c15
      by_cases c16 : ((y159.length : Int) : Int).toNat ≤ 70368744177664
      case neg => rw [if_neg c16] at H; exact absurd H (by simp)
      rw [if_pos c16] at H
      have c16b0 := eq_true c16
      have c16b1 : decide (((y159.length : Int) : Int).toNat ≤ 70368744177664) = true := decide_eq_true c16
      clear c16
      obtain ⟨y164, hy164⟩ : ∃ y_ : List Int, y_ = (List.replicate ((y159.length : Int) : Int).toNat 0) := ⟨_, rfl⟩
      replace H : (nat_Shr.l0 k y159 a1 y164 (y159.length : Int) 0) = some r := by first | (rw [hy164]; with_reducible exact H) | (rw [hy164]; exact H) | exact H
      have Ny164 := A0_ hy164
      clear hy164
      have H' := A0_ H
      clear H
      go_enter Try.func25, Try.ntmps25
      go_wp2_with (first | ((with_reducible refine gate_callee (f := 40) rfl ?_); refine goesM_ (some 9) Try.func40 #[.slice A0 l0.length c0] rfl ?_; (with_reducible refine (nat_trim.calls k (fun k_ => (P0_ k_ ∨ w.heap.size ≤ k_)) _ _ l0 t153 _ ?side1 A3.out).mono ?_); (case side1 => exact HO0.out); rintro e w17 ⟨v154, rfl, ho0, hb⟩; refine ⟨_, rfl, ?_⟩; have n0_ := A0_ (Kd.V_below (mvV HO0.out) hb); have n1_ := A0_ (Kd.V_lower (Kd.V_mono (ok' := fun k_ => (P0_ k_ ∨ w.heap.size ≤ k_)) ho0 (fun k_ hk_ => Or.elim hk_ (fun hs_ => hs_) (fun hn_ => (.inr (Nat.le_trans (below_size bl_) hn_))))) (below_size bl_)); have n2_ := A0_ (below_step bl_ hb); clear HO0; clear HB; have HO0 := n0_; have HO155 := n1_; have HB := n2_; clear n0_ n1_ n2_; (try clear hb); (try clear hb2); (try clear hk); (try clear hi); (try clear ho0); obtain ⟨Ao18, co18, eo18⟩ := Kd.V_slice HO155.out; subst eo18; have q19 : ((ji12) : Int) ≤ ((t153.length : Int) : Int) := od_; obtain ⟨i019, hi019, _, hsz19, _⟩ := info_parts info37; have hroom19 : t153.length ≤ co18 := (Kd.V_reads' HO155.out).2.1; have hC19 : Kd.F (Kd.int .u32) _ _ Ao18 t153.length t153 := (Kd.V_at (base := w.heap.size) HO155.out).2.2; have q019 : (0 : Int) ≤ ((ji12) : Int) := od_; have hcut19 := cut_from (P := Try.prog) 22 37 .i64 Try.underlying22 hi019 1 hsz19 Ao18 t153.length co18 (ji12) q019 q19; have hr19 := Kd.F_cut (m := ((ji12) : Int).toNat) (c := co18) hC19 (by omega) hroom19; obtain ⟨A19, hA19⟩ : ∃ A1, A1 = (if co18 = ((ji12) : Int).toNat then Ao18 else (Ao18 : Option Addr).map (·.add (((ji12) : Int).toNat * 1))) := ⟨_, rfl⟩; obtain ⟨c19, hc19⟩ : ∃ c1, c1 = co18 - ((ji12) : Int).toNat := ⟨_, rfl⟩; have hy19 : y159.length = t153.length - ((ji12) : Int).toNat := (by rw [Ny159.out, List.length_drop] <;> omega); rw [show (t153).drop ((ji12) : Int).toNat = y159 from Ny159.out.symm] at hr19; replace hr19 : Kd.F (Kd.int .u32) _ _ A19 y159.length y159 := (by rw [hA19]; exact hr19); rw [← hy19, ← hA19, ← hc19] at hcut19; have HO163 := A0_ (show Kd.V (Kd.int .u32) 37 _ w.heap.size _ (.slice A19 y159.length c19) y159 from Kd.V_mk (by rw [hy19, hc19]; exact Nat.sub_le_sub_right hroom19 _) hr19); have HC163 := A0_ (show y159.length ≤ c19 from by rw [hy19, hc19]; exact Nat.sub_le_sub_right hroom19 _); clear hr19 hC19 hroom19 hi019 hsz19 hc19; have KY19 := A0_ hy19; have KA19 := A0_ hA19; clear hy19 hA19; replace q19 := eq_true q19) | ((with_reducible refine gate_dst (N := 25) rfl ?_); refine Kd.R_make (Kd.int .u32) _ 37 rfl (N := 25) rfl 22 _ _ rfl (y159.length : Int) rfl rfl Try.underlying22 (.int .u32 0) 4 info37 rfl (by decide) (by omega) 0 (ok := fun _ => True) (okp := fun _ => True) rfl (fun _ hk => hk) trivial od_ (Nat.le_trans (Nat.mul_le_mul_right _ (od_ : (y159.length : Int).toNat ≤ 70368744177664)) (by omega)) (Below.refl _ _) (Nat.le_refl _) ?_; intro v165 w20 ho21 hb hg_ hnew_; clear hg_ hnew_; (first | rw [← Ny164.out] at ho21 | (simp only [Int.reduceToNat] at ho21; rw [← Ny164.out] at ho21)); have n0_ := A0_ (Kd.V_elder' (mvV HO0.out) (Kd.R_base ho21) hb); have n1_ := A0_ (Kd.V_elder' (mvV HO155.out) (Kd.R_base ho21) hb); have n2_ := A0_ (Kd.V_elder' (mvV HO163.out) (Kd.R_base ho21) hb); have n3_ := A0_ (Kd.R_lower (Kd.R_newM (M := fun k_ => (w.heap.size ≤ k_)) ho21 (below_size bl_) (fun k_ h_ => h_)) (below_size bl_)); have n4_ := A0_ (below_step bl_ hb); clear HO0; clear HO155; clear HO163; clear HB; have HO0 := n0_; have HO155 := n1_; have HO163 := n2_; have HO166 := n3_; have HB := n4_; clear n0_ n1_ n2_ n3_ n4_; clear hb ho21))
      go_loopg [28] k (fun kq v28 w' => ∃ (x5_1 : List Int) (x28_1 : Int), v28 = .int .i64 x28_1 ∧ Aside0 (nat_Shr.l0 kq y159 a1 x5_1 (y159.length : Int) x28_1 = some r) ∧ Aside0 (kq ≤ k) ∧ Aside0 (Kd.V (Kd.int .u32) 37 w' w.heap.size (fun k_ => (P0_ k_ ∨ w.heap.size ≤ k_) ∧ some k_ ≠ (v165 : Value).ownBlock) (.slice A19 y159.length c19) y159) ∧ Aside0 (Kd.R (Kd.int .u32) 37 w' w.heap.size (fun k_ => (w.heap.size ≤ k_)) v165 x5_1) ∧ Aside0 (Below w.heap.size w w'))
      case atStart => exact ⟨(y164), (0), rs_, H', ⟨Nat.le_refl _⟩, ⟨mvV HO163.out⟩, ⟨mvR (Kd.R_mono HO166.out (fun _ hk => hk.1))⟩, ⟨bl_⟩⟩
      case round =>
        clear H'
        (try clear c1); (try clear q1); (try clear c2); (try clear p2); (try clear c4); (try clear c4b0); (try clear p6); (try clear c9); (try clear c9b0); (try clear c13); (try clear c13b0); (try clear c13b1); (try clear c14); (try clear c14b0); (try clear c14b1); (try clear c15); (try clear c15b0); (try clear c15b1); (try clear c16); (try clear c16b0); (try clear c16b1); (try clear c19); (try clear q19)
        (try clear q019); (try clear q19)
        obtain ⟨x5_1, x28_1, rfl, HA, HK1, HO_0, HO_5, HB⟩ := hrel
        cases gk with
        | zero => exact absurd HA.out (by simp [nat_Shr.l0])
        | succ k1 =>
          have H := HA.out
          clear HA
          simp only [nat_Shr.l0] at H
          by_cases c22 : x28_1 < (y159.length : Int)
          · rw [if_pos c22] at H
            have c22b0 : decide (x28_1 < (y159.length : Int)) = true := decide_eq_true c22
            clear c22
            by_cases c23 : 0 ≤ x28_1
            case neg => rw [if_neg c23] at H; exact absurd H (by simp)
            rw [if_pos c23] at H
            have c23b0 : decide (0 ≤ x28_1) = true := decide_eq_true c23
            clear c23
            by_cases c24 : x28_1 < (y159.length : Int)
            case neg => rw [if_neg c24] at H; exact absurd H (by simp)
            rw [if_pos c24] at H
            have c24b0 : decide (x28_1 < (y159.length : Int)) = true := decide_eq_true c24
            clear c24
            by_cases c25 : (wrap64 (x28_1 + 1)) < (y159.length : Int)
            · rw [if_pos c25] at H
              have c25b0 : decide ((wrap64 (x28_1 + 1)) < (y159.length : Int)) = true := decide_eq_true c25
              clear c25
              obtain ⟨ji26, hji26⟩ : ∃ j_ : Int, (wrap64 (x28_1 + 1)) = j_ := ⟨_, rfl⟩
              (first | rw [hji26] at H | simp only [hji26] at H)
              (try rw [hji26] at c25b0)
              have hji26w : (IntKind.i64.wrap (x28_1 + 1)) = ji26 := (i64_w _).trans hji26
              by_cases c27 : 0 ≤ (ji26)
              case neg => rw [if_neg c27] at H; exact absurd H (by simp)
              rw [if_pos c27] at H
              have c27b0 : decide (0 ≤ (ji26)) = true := decide_eq_true c27
              clear c27
              obtain ⟨ji28, hji28⟩ : ∃ j_ : Int, (Int.tmod a1 32) = j_ := ⟨_, rfl⟩
              (first | rw [hji28] at H | simp only [hji28] at H)
              by_cases c29 : 0 ≤ (ji28)
              case neg => rw [if_neg c29] at H; exact absurd H (by simp)
              rw [if_pos c29] at H
              have c29b0 := eq_true c29
              have c29b1 : decide (0 ≤ (ji28)) = true := decide_eq_true c29
              clear c29
              obtain ⟨ji30, hji30⟩ : ∃ j_ : Int, (shr .u64 (Go.bits .or .u64 (IntKind.u64.wrap (rd y159 x28_1)) (IntKind.u64.wrap ((IntKind.u64.wrap (rd y159 (ji26))) * 4294967296))) (ji28)) = j_ := ⟨_, rfl⟩
              (first | rw [hji30] at H | simp only [hji30] at H)
              have hji30_ : ((Go.bits .or .u64 (IntKind.u64.wrap (rd y159 x28_1)) (IntKind.u64.wrap ((IntKind.u64.wrap (rd y159 (ji26))) * 4294967296))) / 2 ^ min (ji28).toNat 64) = ji30 := hji30
              have hji30z : (ji28) ≤ 64 → ((Go.bits .or .u64 (IntKind.u64.wrap (rd y159 x28_1)) (IntKind.u64.wrap ((IntKind.u64.wrap (rd y159 (ji26))) * 4294967296))) / 2 ^ (ji28).toNat) = ji30 := shr_small hji30
              by_cases c31 : x28_1 < (x5_1.length : Int)
              case neg => rw [if_neg c31] at H; exact absurd H (by simp)
              rw [if_pos c31] at H
              have c31b0 : decide (x28_1 < (x5_1.length : Int)) = true := decide_eq_true c31
              clear c31
              obtain ⟨y169, hy169⟩ : ∃ y_ : List Int, y_ = (x5_1.set (x28_1 : Int).toNat ((ji30) % 4294967296)) := ⟨_, rfl⟩
              replace H : (nat_Shr.l0 k1 y159 a1 y169 (y159.length : Int) ji26) = some r := by first | (rw [hy169]; with_reducible exact H) | (rw [hy169]; exact H) | exact H
              have Ny169 := A0_ hy169
              clear hy169
              have H' := A0_ H
              clear H
              have p167 : 0 ≤ (x28_1 : Int) := od_
              have q167 : x28_1 < (y159.length : Int) := od_
              obtain ⟨ad167, e167, hx167_0⟩ := Kd.at_int (Kd.V_reads' HO_0.out).2.2 x28_1 p167 q167
              cases e167
              replace p167 := eq_true p167
              replace q167 := eq_true q167
              have p168 : 0 ≤ ((ji26) : Int) := od_
              have q168 : (ji26) < (y159.length : Int) := od_
              obtain ⟨ad168, e168, hx168_0⟩ := Kd.at_int (Kd.V_reads' HO_0.out).2.2 (ji26) p168 q168
              obtain rfl : ad167 = ad168 := (by injection e168)
              replace p168 := eq_true p168
              replace q168 := eq_true q168
              have p32 : 0 ≤ (x28_1 : Int) := od_
              have q32 : (x28_1 : Int) < ((x5_1.length : Int) : Int) := od_
              obtain ⟨go32, co32, eo32, gb32, gl32, cl32, HG32⟩ := Kd.R_form HO_5.out (by omega)
              (first | cases eo32 | (injection eo32 with ea_ en_ ec_; (first | subst ea_ | (injection ea_ with ea_; subst ea_)); subst ec_; clear en_))
              have GB32 := A0_ gb32
              have GG32 := A0_ HG32
              clear gb32 gl32 HG32
              obtain ⟨hx32_0, hf32_0⟩ := Kd.R_celln 0 HO_5.out (x28_1 : Int) p32 q32
              replace p32 := eq_true p32
              replace q32 := eq_true q32
              have HP33 := Kd.R_putg HO_5.out (x28_1 : Int) ((ji30) % 4294967296)
              go_wp2_with (first | ((with_reducible refine gate_store (t := 37) (p := 57) rfl ?_); refine store_event (t := 37) (p := 57) (v := ?vo_w34) (w1 := (wr.setCell ⟨go32, (x28_1 : Int).toNat, none⟩ (.int .u32 ((ji30) % 4294967296)))) ?hg ?ho ?hn ?hr ?_; (case ho => rfl); (case hg => rfl); (case hn => rfl); (case hr => first | (go_simp; done) | (go_simp; rfl)); intro w34 hw; have hg : wr.grownBy w34 (some go32) := (by rw [hw]; exact HP33.2); have hp_ : Kd.R (Kd.int .u32) 37 w34 w.heap.size (fun k_ => (w.heap.size ≤ k_)) (.slice (some ⟨go32, 0, none⟩) x5_1.length co32) y169 := (by rw [hw, Ny169.out]; exact HP33.1); clear HP33; have n0_ := A0_ (Kd.V_afterv (v := (.slice (some ⟨go32, 0, none⟩) x5_1.length co32)) (v1 := (.slice (some ⟨go32, 0, none⟩) x5_1.length co32)) (ok := (fun k_ => (P0_ k_ ∨ w.heap.size ≤ k_))) (mvV HO_0.out) hg (.inl rfl)); have n1_ := A0_ (hp_); have n2_ := A0_ ((by rw [hw]; exact below_set (HB.out) GB32.out : Below w.heap.size w w34)); clear HO_0; clear HO_5; clear HB; have HO_0 := n0_; have HO_5 := n1_; have HB := n2_; clear n0_ n1_ n2_; clear hg hw hp_))
              go_roundg k1
              case measure => have := HK1.out; omega
              case rel => exact ⟨(y169), (ji26), (by first | rfl | (simp; done) | (simp only [← hji26] <;> (first | rfl | simp)) | (simp [*]; done)), H', ⟨by have := HK1.out; omega⟩, ⟨mvV HO_0.out⟩, ⟨mvR HO_5.out⟩, ⟨bl_⟩⟩
            · rw [if_neg c25] at H
              have c25b0 : decide ((wrap64 (x28_1 + 1)) < (y159.length : Int)) = false := decide_eq_false c25
              clear c25
              obtain ⟨ji35, hji35⟩ : ∃ j_ : Int, (Int.tmod a1 32) = j_ := ⟨_, rfl⟩
              (first | rw [hji35] at H | simp only [hji35] at H)
              by_cases c36 : 0 ≤ (ji35)
              case neg => rw [if_neg c36] at H; exact absurd H (by simp)
              rw [if_pos c36] at H
              have c36b0 := eq_true c36
              have c36b1 : decide (0 ≤ (ji35)) = true := decide_eq_true c36
              clear c36
              obtain ⟨ji37, hji37⟩ : ∃ j_ : Int, (shr .u64 (IntKind.u64.wrap (rd y159 x28_1)) (ji35)) = j_ := ⟨_, rfl⟩
              (first | rw [hji37] at H | simp only [hji37] at H)
              have hji37_ : ((IntKind.u64.wrap (rd y159 x28_1)) / 2 ^ min (ji35).toNat 64) = ji37 := hji37
              have hji37z : (ji35) ≤ 64 → ((IntKind.u64.wrap (rd y159 x28_1)) / 2 ^ (ji35).toNat) = ji37 := shr_small hji37
              by_cases c38 : x28_1 < (x5_1.length : Int)
              case neg => rw [if_neg c38] at H; exact absurd H (by simp)
              rw [if_pos c38] at H
              have c38b0 : decide (x28_1 < (x5_1.length : Int)) = true := decide_eq_true c38
              clear c38
              obtain ⟨y170, hy170⟩ : ∃ y_ : List Int, y_ = (x5_1.set (x28_1 : Int).toNat ((ji37) % 4294967296)) := ⟨_, rfl⟩
              replace H : (nat_Shr.l0 k1 y159 a1 y170 (y159.length : Int) (wrap64 (x28_1 + 1))) = some r := by first | (rw [hy170]; with_reducible exact H) | (rw [hy170]; exact H) | exact H
              have Ny170 := A0_ hy170
              clear hy170
              have H' := A0_ H
              clear H
              have p167 : 0 ≤ (x28_1 : Int) := od_
              have q167 : x28_1 < (y159.length : Int) := od_
              obtain ⟨ad167, e167, hx167_0⟩ := Kd.at_int (Kd.V_reads' HO_0.out).2.2 x28_1 p167 q167
              cases e167
              replace p167 := eq_true p167
              replace q167 := eq_true q167
              have p39 : 0 ≤ (x28_1 : Int) := od_
              have q39 : (x28_1 : Int) < ((x5_1.length : Int) : Int) := od_
              obtain ⟨go39, co39, eo39, gb39, gl39, cl39, HG39⟩ := Kd.R_form HO_5.out (by omega)
              (first | cases eo39 | (injection eo39 with ea_ en_ ec_; (first | subst ea_ | (injection ea_ with ea_; subst ea_)); subst ec_; clear en_))
              have GB39 := A0_ gb39
              have GG39 := A0_ HG39
              clear gb39 gl39 HG39
              obtain ⟨hx39_0, hf39_0⟩ := Kd.R_celln 0 HO_5.out (x28_1 : Int) p39 q39
              replace p39 := eq_true p39
              replace q39 := eq_true q39
              have HP40 := Kd.R_putg HO_5.out (x28_1 : Int) ((ji37) % 4294967296)
              go_wp2_with (first | ((with_reducible refine gate_store (t := 37) (p := 57) rfl ?_); refine store_event (t := 37) (p := 57) (v := ?vo_w41) (w1 := (wr.setCell ⟨go39, (x28_1 : Int).toNat, none⟩ (.int .u32 ((ji37) % 4294967296)))) ?hg ?ho ?hn ?hr ?_; (case ho => rfl); (case hg => rfl); (case hn => rfl); (case hr => first | (go_simp; done) | (go_simp; rfl)); intro w41 hw; have hg : wr.grownBy w41 (some go39) := (by rw [hw]; exact HP40.2); have hp_ : Kd.R (Kd.int .u32) 37 w41 w.heap.size (fun k_ => (w.heap.size ≤ k_)) (.slice (some ⟨go39, 0, none⟩) x5_1.length co39) y170 := (by rw [hw, Ny170.out]; exact HP40.1); clear HP40; have n0_ := A0_ (Kd.V_afterv (v := (.slice (some ⟨go39, 0, none⟩) x5_1.length co39)) (v1 := (.slice (some ⟨go39, 0, none⟩) x5_1.length co39)) (ok := (fun k_ => (P0_ k_ ∨ w.heap.size ≤ k_))) (mvV HO_0.out) hg (.inl rfl)); have n1_ := A0_ (hp_); have n2_ := A0_ ((by rw [hw]; exact below_set (HB.out) GB39.out : Below w.heap.size w w41)); clear HO_0; clear HO_5; clear HB; have HO_0 := n0_; have HO_5 := n1_; have HB := n2_; clear n0_ n1_ n2_; clear hg hw hp_))
              go_roundg k1
              case measure => have := HK1.out; omega
              case rel => exact ⟨(y170), (wrap64 (x28_1 + 1)), rs_, H', ⟨by have := HK1.out; omega⟩, ⟨mvV HO_0.out⟩, ⟨mvR HO_5.out⟩, ⟨bl_⟩⟩
          · rw [if_neg c22] at H
            have c22b0 : decide (x28_1 < (y159.length : Int)) = false := decide_eq_false c22
            clear c22
            replace H := Option.bind_eq_some_iff.mp H
            obtain ⟨t171, A420, H⟩ := H
            (try dsimp only at H)
            have A42 := A0_ A420
            clear A420
            obtain rfl := Option.some.inj H
            obtain ⟨Ao43, co43, eo43⟩ := Kd.R_slice HO_5.out
            subst eo43
            go_wp2_with (first | ((with_reducible refine gate_callee (f := 40) rfl ?_); refine goesM_ (some 60) Try.func40 #[.slice Ao43 x5_1.length co43] rfl ?_; (with_reducible refine (nat_trim.calls k1 (fun k_ => some k_ = (.slice Ao43 x5_1.length co43 : Value).ownBlock) _ _ x5_1 t171 _ ?side1 A42.out).mono ?_); (case side1 => exact Kd.R_V (Kd.R_tight rfl (HO_5.out))); rintro e w44 ⟨v172, rfl, ho0, hb⟩; refine ⟨_, rfl, ?_⟩; have n0_ := A0_ (Kd.V_below (mvV HO_0.out) hb); have n1_ := A0_ (Kd.R_below (mvR HO_5.out) hb); have n2_ := A0_ (Kd.V_lower (Kd.V_mono (ok' := fun k_ => (P0_ k_ ∨ w.heap.size ≤ k_)) ho0 (fun k_ hk_ => Or.elim hk_ (fun hs_ => (.inr (((HO_5.out).1 k_ hs_.symm)))) (fun hn_ => (.inr (Nat.le_trans (below_size bl_) hn_))))) (below_size bl_)); have n3_ := A0_ (below_step bl_ hb); clear HO_0; clear HO_5; clear HB; have HO_0 := n0_; have HO_5 := n1_; have HO173 := n2_; have HB := n3_; clear n0_ n1_ n2_ n3_; (try clear hb); (try clear hb2); (try clear hk); (try clear hi); (try clear ho0)))
            go_ret
            exact ⟨_, by first | rfl | (simp [errW_none, errW_some] <;> rfl) | (simp only [← hji12]; first | rfl | (simp [errW_none, errW_some] <;> rfl)) | (simp [*, errW_none, errW_some] <;> rfl), mvV HO173.out, bl_⟩

/-! ### bits_Len32: function 41, by hand -/
def bits_Len32.f (a0 : Int) : Option (Int) := if 0 ≤ a0 ∧ a0 ≤ 4294967295 then some (Lib.bitLen a0.toNat : Int) else none
set_option maxHeartbeats 4000000 in
set_option maxRecDepth 100000 in
theorem bits_Len32.walk (a0 : Int) (w : World) (h0 : 0 ≤ a0) (h1 : a0 ≤ 4294967295) :
    Calls Try.prog 41 #[.int .u32 a0] w fun e w' => e = .returned (.int .i64 (Lib.bitLen a0.toNat)) ∧ w' = w := by
  by_cases c1 : 65536 ≤ a0
  · by_cases c2 : 256 ≤ a0 / 65536
    · have k0 : 0 ≤ a0 / 65536 / 256 := by omega
      have k1 : a0 / 65536 / 256 ≤ 255 := by omega
      go_enter Try.func41, Try.ntmps41
      go_wp2
      go_ret
      refine ⟨congrArg Ending.returned (congrArg (Value.int IntKind.i64) ?_), rfl⟩
      rw [Lib.len8_of (a0 / 65536 / 256) (by omega) (by omega)]; unfold wrap64
      have e : (a0 / 65536 / 256).toNat = a0.toNat / 16777216 := by omega
      have l := Lib.bitLen_le8' (a0 / 65536 / 256) (by omega) (by omega)
      have s := Lib.bitLen_shift24 a0.toNat (by omega) (by omega)
      rw [e] at l ⊢
      omega
    · have k0 : 0 ≤ a0 / 65536 := by omega
      have k1 : a0 / 65536 ≤ 255 := by omega
      go_enter Try.func41, Try.ntmps41
      go_wp2
      go_ret
      refine ⟨congrArg Ending.returned (congrArg (Value.int IntKind.i64) ?_), rfl⟩
      rw [Lib.len8_of (a0 / 65536) (by omega) (by omega)]; unfold wrap64
      have e : (a0 / 65536).toNat = a0.toNat / 65536 := by omega
      have l := Lib.bitLen_le8' (a0 / 65536) (by omega) (by omega)
      have s := Lib.bitLen_shift16 a0.toNat (by omega) (by omega)
      rw [e] at l ⊢
      omega
  · by_cases c2 : 256 ≤ a0
    · have k0 : 0 ≤ a0 / 256 := by omega
      have k1 : a0 / 256 ≤ 255 := by omega
      go_enter Try.func41, Try.ntmps41
      go_wp2
      go_ret
      refine ⟨congrArg Ending.returned (congrArg (Value.int IntKind.i64) ?_), rfl⟩
      rw [Lib.len8_of (a0 / 256) (by omega) (by omega)]; unfold wrap64
      have e : (a0 / 256).toNat = a0.toNat / 256 := by omega
      have l := Lib.bitLen_le8' (a0 / 256) (by omega) (by omega)
      have s := Lib.bitLen_shift8 a0.toNat (by omega) (by omega)
      rw [e] at l ⊢
      omega
    · have k1 : a0 ≤ 255 := by omega
      go_enter Try.func41, Try.ntmps41
      go_wp2
      go_ret
      refine ⟨congrArg Ending.returned (congrArg (Value.int IntKind.i64) ?_), rfl⟩
      rw [Lib.len8_of a0 (by omega) (by omega)]; unfold wrap64
      have l := Lib.bitLen_le8' a0 (by omega) (by omega)
      omega
theorem bits_Len32.calls (a0 : Int) (r : Int) (w : World) (h : bits_Len32.f a0 = some r) :
    Calls Try.prog 41 #[.int .u32 a0] w fun e w' => e = .returned (.int .i64 r) ∧ Drawn0 w w' := by
  unfold bits_Len32.f at h
  by_cases hb : 0 ≤ a0 ∧ a0 ≤ 4294967295
  · rw [if_pos hb] at h
    exact (bits_Len32.walk a0 w hb.1 hb.2).mono fun e w' ⟨he, hw⟩ => ⟨by rw [he, Option.some.inj h], by rw [hw]; exact Drawn0.refl w⟩
  · rw [if_neg hb] at h
    exact absurd h (by simp)


/-! ### bits_LeadingZeros32: function 46 -/
def bits_LeadingZeros32.f (a0 : Int) : Option (Int) := (bits_Len32.f a0).bind fun t174 => (some (wrap64 (32 - t174)))
set_option maxHeartbeats 8000000 in
set_option maxRecDepth 100000 in
theorem bits_LeadingZeros32.calls (a0 : Int) (r : Int) (w : World) (h : bits_LeadingZeros32.f a0 = some r) :
    Calls Try.prog 46 #[.int .u32 a0] w fun e w' => e = .returned (.int .i64 r) ∧ Drawn0 w w' := by
  have H : ((bits_Len32.f a0).bind fun t174 => (some (wrap64 (32 - t174)))) = some r := h
  clear h
  replace H := Option.bind_eq_some_iff.mp H
  obtain ⟨t174, A20, H⟩ := H
  (try dsimp only at H)
  have A2 := A0_ A20
  clear A20
  obtain rfl := Option.some.inj H
  go_enter Try.func46, Try.ntmps46
  go_wp2_with (first | ((with_reducible refine gate_callee (f := 41) rfl ?_); refine goesM_ (some 4) Try.func41 #[.int .u32 a0] rfl ?_; (with_reducible refine (bits_Len32.calls a0 t174 _ A2.out).mono ?_); rintro e w' ⟨rfl, ⟨nd, rfl⟩⟩; refine ⟨_, rfl, ?_⟩))
  go_ret
  exact ⟨by first | rfl | (simp; done) | (simp [*]; done), by repeat (first | exact Drawn0.refl _ | apply Drawn0.step)⟩

end Go.Proofs.Ytohkjfdcmiiehaa.P
