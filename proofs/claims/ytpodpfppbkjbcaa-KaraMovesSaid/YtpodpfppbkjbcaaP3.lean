/- What the Go functions of these names come to, as plain Lean functions, and the walks that show it. Written for this claim by a turned copy of the print program; Lean checks it. -/
import Derived.Test.YtpodpfppbkjbcaaP0
import Derived.Test.YtpodpfppbkjbcaaP1
namespace Go.Proofs.Ytpodpfppbkjbcaa.P
open Go.RowKit Go.Proofs.YtpodpfppbkjbcaaW.PrintWords Go.Proofs.YtpodpfppbkjbcaaW.PrintLast Go.Proofs.YtpodpfppbkjbcaaW.PrintMore
attribute [local go_sem] max2_int min2_int max_two min_two max_three min_three max_four min_four   -- for this text's walks alone
set_option linter.unusedVariables false
set_option linter.unusedSimpArgs false

/-! ### nat_Shl: function 16 -/
mutual
def nat_Shl.j0 : Nat → List Int → Int → Bool → Option (List Int × Bool)
  | 0, _, _, _ => none
  | k + 1, x0, x1, x15 => if x15 = true then (some (([] : List Int), false)) else ((nat_trim.f k x0).bind fun t358 => (if 0 ≤ (wrap64 ((wrap64 ((wrap64 (Int.tdiv x1 32)) + (t358.length : Int))) + 1)) then (if (wrap64 ((wrap64 ((wrap64 (Int.tdiv x1 32)) + (t358.length : Int))) + 1) : Int).toNat ≤ 70368744177664 then (nat_Shl.l0 k x1 (List.replicate (wrap64 ((wrap64 ((wrap64 (Int.tdiv x1 32)) + (t358.length : Int))) + 1) : Int).toNat 0) t358 (t358.length : Int) 0) else (none)) else (none)))
def nat_Shl.l0 : Nat → Int → List Int → List Int → Int → Int → Option (List Int × Bool)
  | 0, _, _, _, _, _ => none
  | k + 1, x1, x6, x25, x26, x27 => if x27 < x26 then (if 0 ≤ x27 then (if x27 < (x25.length : Int) then (if 0 ≤ (Int.tmod x1 32) then (if 0 ≤ (wrap64 ((wrap64 (Int.tdiv x1 32)) + x27)) then (if (wrap64 ((wrap64 (Int.tdiv x1 32)) + x27)) < (x6.length : Int) then (if 0 ≤ (wrap64 ((wrap64 ((wrap64 (Int.tdiv x1 32)) + x27)) + 1)) then (if (wrap64 ((wrap64 ((wrap64 (Int.tdiv x1 32)) + x27)) + 1)) < (x6.length : Int) then (nat_Shl.l0 k x1 ((x6.set ((wrap64 ((wrap64 (Int.tdiv x1 32)) + x27)) : Int).toNat (Go.bits .or .u32 (rd x6 (wrap64 ((wrap64 (Int.tdiv x1 32)) + x27))) ((shl .u64 (IntKind.u64.wrap (rd x25 x27)) (Int.tmod x1 32)) % 4294967296))).set ((wrap64 ((wrap64 ((wrap64 (Int.tdiv x1 32)) + x27)) + 1)) : Int).toNat (((shl .u64 (IntKind.u64.wrap (rd x25 x27)) (Int.tmod x1 32)) / 4294967296) % 4294967296)) x25 x26 (wrap64 (x27 + 1))) else (none)) else (none)) else (none)) else (none)) else (none)) else (none)) else (none)) else ((nat_trim.f k x6).bind fun t368 => (some (t368, true)))
end
def nat_Shl.f (k : Nat) (l0 : List Int) (a1 : Int) : Option (List Int × Bool) := if a1 < 0 then (nat_Shl.j0 k l0 a1 true) else (nat_Shl.j0 k l0 a1 (decide (a1 > 100000)))
theorem nat_Shl.mono_l : ∀ k, (∀ y0 y1 y2, LeO (nat_Shl.j0 k y0 y1 y2) (nat_Shl.j0 (k + 1) y0 y1 y2)) ∧ (∀ y0 y1 y2 y3 y4, LeO (nat_Shl.l0 k y0 y1 y2 y3 y4) (nat_Shl.l0 (k + 1) y0 y1 y2 y3 y4))
  | 0 => ⟨fun _ _ _ r h => by simp [nat_Shl.j0] at h, fun _ _ _ _ _ r h => by simp [nat_Shl.l0] at h⟩
  | k + 1 => by
    obtain ⟨ih0, ih1⟩ := nat_Shl.mono_l k
    refine ⟨?_, ?_⟩
    · intro y0 y1 y2
      unfold nat_Shl.j0
      repeat' first
      | (with_reducible exact ih0 _ _ _)
      | (with_reducible exact ih1 _ _ _ _ _)
      | (with_reducible exact nat_trim.mono _ _)
      | (with_reducible exact LeO.refl _)
      | (with_reducible exact LeO.none _)
      | (with_reducible refine LeO.ite ?_ ?_)
      | (with_reducible refine LeO.bind ?_ (fun _ => ?_))
      | exact ih0 _ _ _
      | exact ih1 _ _ _ _ _
      | exact nat_trim.mono _ _
      | exact LeO.none _
      | refine LeO.ite ?_ ?_
      | refine LeO.bind ?_ (fun _ => ?_)
    · intro y0 y1 y2 y3 y4
      unfold nat_Shl.l0
      repeat' first
      | (with_reducible exact ih0 _ _ _)
      | (with_reducible exact ih1 _ _ _ _ _)
      | (with_reducible exact nat_trim.mono _ _)
      | (with_reducible exact LeO.refl _)
      | (with_reducible exact LeO.none _)
      | (with_reducible refine LeO.ite ?_ ?_)
      | (with_reducible refine LeO.bind ?_ (fun _ => ?_))
      | exact ih0 _ _ _
      | exact ih1 _ _ _ _ _
      | exact nat_trim.mono _ _
      | exact LeO.none _
      | refine LeO.ite ?_ ?_
      | refine LeO.bind ?_ (fun _ => ?_)
theorem nat_Shl.mono : ∀ a0 a1 k, LeO (nat_Shl.f k a0 a1) (nat_Shl.f (k + 1) a0 a1) := by
  intro a0 a1 k
  obtain ⟨ih0, ih1⟩ := nat_Shl.mono_l k
  unfold nat_Shl.f
  repeat' first
      | (with_reducible exact ih0 _ _ _)
      | (with_reducible exact ih1 _ _ _ _ _)
      | (with_reducible exact nat_trim.mono _ _)
      | (with_reducible exact LeO.refl _)
      | (with_reducible exact LeO.none _)
      | (with_reducible refine LeO.ite ?_ ?_)
      | (with_reducible refine LeO.bind ?_ (fun _ => ?_))
      | exact ih0 _ _ _
      | exact ih1 _ _ _ _ _
      | exact nat_trim.mono _ _
      | exact LeO.none _
      | refine LeO.ite ?_ ?_
      | refine LeO.bind ?_ (fun _ => ?_)
set_option maxHeartbeats 8000000 in
set_option maxRecDepth 100000 in
theorem nat_Shl.calls (k : Nat) (P0_ : Nat → Prop) (A0 : Option Addr) (c0 : Nat) (l0 : List Int) (a1 : Int) (r1 : List Int) (r2 : Bool) (w : World) (hs0 : Kd.V (Kd.int .u32) 31 w w.heap.size (fun k_ => P0_ k_) (.slice A0 l0.length c0) l0) (h : nat_Shl.f k l0 a1 = some (r1, r2)) :
    Calls Try.prog 16 #[.slice A0 l0.length c0, .int .i64 a1] w fun e w' => ∃ v0_ : Value, e = .returned (.tuple #[v0_, .bool r2]) ∧ Kd.V (Kd.int .u32) 31 w' w.heap.size (fun k_ => (P0_ k_ ∨ w.heap.size ≤ k_)) v0_ r1 ∧ Below w.heap.size w w' := by
  have HO0 := Aside0.mk (show Kd.V (Kd.int .u32) 31 w w.heap.size (fun k_ => (P0_ k_ ∨ w.heap.size ≤ k_)) (.slice A0 l0.length c0) l0 from Kd.V_mono hs0 (fun k_ hk => .inl hk))
  have HB := Aside0.mk (Below.refl w.heap.size w)
  have H : (if a1 < 0 then (nat_Shl.j0 k l0 a1 true) else (nat_Shl.j0 k l0 a1 (decide (a1 > 100000)))) = some (r1, r2) := h
  clear h
  have HC3 := Aside0.mk H
  clear H
  go_enter Try.func16, Try.ntmps16
  go_upto_region 1 with (fail)
  go_cut [15] (fun v15 wc => ∃ (kq : Nat) (x15_2 : Bool), v15 = .bool x15_2 ∧ Aside0 (nat_Shl.j0 kq l0 a1 x15_2 = some (r1, r2)) ∧ Aside0 (kq ≤ k) ∧ Aside0 (Kd.V (Kd.int .u32) 31 wc w.heap.size (fun k_ => (P0_ k_ ∨ w.heap.size ≤ k_)) (.slice A0 l0.length c0) l0) ∧ Aside0 (Below w.heap.size w wc))
  case first =>
    have H := HC3.out
    clear HC3
    by_cases c4 : a1 < 0
    · rw [if_pos c4] at H
      have c4b0 : decide (a1 < 0) = true := decide_eq_true c4
      clear c4
      (first | rw [c4b0] | (simp only [i64_w, i32_w]; rw [c4b0]) | rw [c4b1] | skip)
      have H' := Aside0.mk H
      clear H
      go_wp2
      go_meet
      case rel => exact ⟨_, (true), (by first | rfl | (simp; done) | (simp [*]; done)), H', ⟨by first | omega | exact Nat.le_refl _⟩, ⟨by (with_reducible repeat (first | apply Kd.V_alloc | apply Kd.V_drewN | apply Kd.V_drew)); exact HO0.out⟩, ⟨by repeat (first | (with_reducible first | exact HB.out | apply below_alloc | apply pw_below_drewN | apply below_drew1) | exact HB.out)⟩⟩
    · rw [if_neg c4] at H
      have c4b0 : decide (a1 < 0) = false := decide_eq_false c4
      clear c4
      (first | rw [c4b0] | (simp only [i64_w, i32_w]; rw [c4b0]) | rw [c4b1] | skip)
      have H' := Aside0.mk H
      clear H
      go_wp2
      go_meet
      case rel => exact ⟨_, (decide (a1 > 100000)), (by first | rfl | (simp; done) | (simp [*]; done)), H', ⟨by first | omega | exact Nat.le_refl _⟩, ⟨by (with_reducible repeat (first | apply Kd.V_alloc | apply Kd.V_drewN | apply Kd.V_drew)); exact HO0.out⟩, ⟨by repeat (first | (with_reducible first | exact HB.out | apply below_alloc | apply pw_below_drewN | apply below_drew1) | exact HB.out)⟩⟩
  case rest =>
    clear HC3
    try clear c1
    try clear p2
    try clear c4
    try clear c4b0
    try clear c4b1
    obtain ⟨kq, x15_2, rfl, HA, HJ2, HO_0, HB⟩ := hcut
    cases kq with
    | zero => exact absurd HA.out (by simp [nat_Shl.j0])
    | succ kj2 =>
      have H := HA.out
      clear HA
      simp only [nat_Shl.j0] at H
      by_cases c5 : x15_2 = true
      · subst c5
        have H1 : (some (([] : List Int), false)) = some (r1, r2) := by rw [if_pos rfl] at H; exact H
        clear H
        have H := H1
        clear H1
        simp only [Option.some.injEq, Prod.mk.injEq] at H
        obtain ⟨rfl, rfl⟩ := H
        go_wp2
        go_ret2
        exact ⟨(.slice none 0 0), by first | rfl | (simp [errW_none, errW_some] <;> rfl) | (simp [*, errW_none, errW_some] <;> rfl), (Kd.V_nil _ _ _ _ _), by repeat (first | (with_reducible first | exact HB.out | apply below_alloc | apply pw_below_drewN | apply below_drew1) | exact HB.out)⟩
      · replace c5 := Bool.eq_false_iff.mpr c5
        subst c5
        have H1 : ((nat_trim.f kj2 l0).bind fun t358 => (if 0 ≤ (wrap64 ((wrap64 ((wrap64 (Int.tdiv a1 32)) + (t358.length : Int))) + 1)) then (if (wrap64 ((wrap64 ((wrap64 (Int.tdiv a1 32)) + (t358.length : Int))) + 1) : Int).toNat ≤ 70368744177664 then (nat_Shl.l0 kj2 a1 (List.replicate (wrap64 ((wrap64 ((wrap64 (Int.tdiv a1 32)) + (t358.length : Int))) + 1) : Int).toNat 0) t358 (t358.length : Int) 0) else (none)) else (none))) = some (r1, r2) := by rw [if_neg (show ¬ (false = true) by decide)] at H; exact H
        clear H
        have H := H1
        clear H1
        replace H := Option.bind_eq_some_iff.mp H
        obtain ⟨t358, A60, H⟩ := H
        replace H : (if 0 ≤ (wrap64 ((wrap64 ((wrap64 (Int.tdiv a1 32)) + (t358.length : Int))) + 1)) then (if (wrap64 ((wrap64 ((wrap64 (Int.tdiv a1 32)) + (t358.length : Int))) + 1) : Int).toNat ≤ 70368744177664 then (nat_Shl.l0 kj2 a1 (List.replicate (wrap64 ((wrap64 ((wrap64 (Int.tdiv a1 32)) + (t358.length : Int))) + 1) : Int).toNat 0) t358 (t358.length : Int) 0) else (none)) else (none)) = some (r1, r2) := H
        have A6 := Aside0.mk A60
        clear A60
        obtain ⟨ji7, hji7⟩ : ∃ j_ : Int, (wrap64 ((wrap64 ((wrap64 (Int.tdiv a1 32)) + (t358.length : Int))) + 1)) = j_ := ⟨_, rfl⟩
        replace H : (if 0 ≤ (ji7) then (if (ji7 : Int).toNat ≤ 70368744177664 then (nat_Shl.l0 kj2 a1 (List.replicate (ji7 : Int).toNat 0) t358 (t358.length : Int) 0) else (none)) else (none)) = some (r1, r2) := by first | (rw [hji7] at H; exact H) | (simp only [hji7] at H ⊢; exact H)
        (try rw [hji7] at A6)
        have hji7w : (IntKind.i64.wrap ((wrap64 ((wrap64 (Int.tdiv a1 32)) + (t358.length : Int))) + 1)) = ji7 := (i64_w _).trans hji7
        by_cases c8 : 0 ≤ (ji7)
        · rw [if_pos c8] at H
          have c8b0 := eq_true c8
          have c8b1 : decide (0 ≤ (ji7)) = true := decide_eq_true c8
          clear c8
          by_cases c9 : (ji7 : Int).toNat ≤ 70368744177664
          · rw [if_pos c9] at H
            have c9b0 := eq_true c9
            have c9b1 : decide ((ji7 : Int).toNat ≤ 70368744177664) = true := decide_eq_true c9
            clear c9
            obtain ⟨y361, hy361⟩ : ∃ y_ : List Int, y_ = (List.replicate (ji7 : Int).toNat 0) := ⟨_, rfl⟩
            replace H : (nat_Shl.l0 kj2 a1 y361 t358 (t358.length : Int) 0) = some (r1, r2) := by first | (rw [hy361]; with_reducible exact H) | (have H2_ := (Option.bind_some _ _).symm.trans H; rw [hy361]; with_reducible exact H2_) | (have H2_ := (Option.bind_some _ _).symm.trans H; with_reducible exact H2_) | with_reducible exact H | (rw [hy361]; exact H) | exact H
            have Ny361 := Aside0.mk hy361
            clear hy361
            have H' := Aside0.mk H
            clear H
            go_wp2_with (first | ((with_reducible refine gate_callee (f := 25) rfl ?_); refine goesL_ (some 17) rfl rfl Try.func25 (by kernel_rfl) rfl #[.slice A0 l0.length c0] rfl (by (try simp only [List.map_toArray, List.map_cons, List.map_nil]); first | done | rfl | (simp only [List.length_drop, List.length_take]; rfl)) ?_; (with_reducible refine (nat_trim.calls kj2 (fun k_ => (P0_ k_ ∨ w.heap.size ≤ k_)) _ _ l0 t358 _ ?side1 A6.out).mono ?_); (case side1 => exact HO_0.out); rintro e w10 ⟨v359, rfl, ho0, hb⟩; refine ⟨_, rfl, ?_⟩; have n0_ := Aside0.mk (Kd.V_below (by (with_reducible repeat (first | apply Kd.V_alloc | apply Kd.V_drewN | apply Kd.V_drew)); exact HO_0.out) hb); have n1_ := Aside0.mk (Kd.V_lower (Kd.V_mono (ok' := fun k_ => (P0_ k_ ∨ w.heap.size ≤ k_)) ho0 (fun k_ hk_ => Or.elim hk_ (fun hs_ => hs_) (fun hn_ => (.inr (Nat.le_trans (below_size (by repeat (first | (with_reducible first | exact HB.out | apply below_alloc | apply pw_below_drewN | apply below_drew1) | exact HB.out))) hn_))))) (below_size (by repeat (first | (with_reducible first | exact HB.out | apply below_alloc | apply pw_below_drewN | apply below_drew1) | exact HB.out)))); have n2_ := Aside0.mk (below_step (by repeat (first | (with_reducible first | exact HB.out | apply below_alloc | apply pw_below_drewN | apply below_drew1) | exact HB.out)) hb); clear HO_0; clear HB; have HO_0 := n0_; have HO360 := n1_; have HB := n2_; clear n0_ n1_ n2_; (try clear hb); (try clear hb2); (try clear hk); (try clear hi); (try clear ho0); obtain ⟨Ao11, co11, eo11⟩ := Kd.V_slice HO360.out; subst eo11) | ((with_reducible refine gate_dst (N := 24) rfl ?_); refine Kd.R_make (Kd.int .u32) _ 31 rfl (N := 24) rfl 25 _ _ rfl ji7 rfl rfl Try.underlying25 (.int .u32 0) 4 info31 rfl (by decide) (by omega) 0 (ok := fun _ => True) (okp := fun _ => True) rfl (fun _ hk => hk) trivial (of_decide_eq_true (by first | (with_reducible assumption) | assumption)) (Nat.le_trans (Nat.mul_le_mul_right _ (of_decide_eq_true (by first | (with_reducible assumption) | assumption) : ji7.toNat ≤ 70368744177664)) (by omega)) (Below.refl _ _) (Nat.le_refl _) ?_; intro v362 w12 ho13 hb hg_ hnew_; clear hg_ hnew_; (first | rw [← Ny361.out] at ho13 | (simp only [Int.reduceToNat] at ho13; rw [← Ny361.out] at ho13)); have n0_ := Aside0.mk (Kd.V_elder' (by (with_reducible repeat (first | apply Kd.V_alloc | apply Kd.V_drewN | apply Kd.V_drew)); exact HO_0.out) (Kd.R_base ho13) hb); have n1_ := Aside0.mk (Kd.V_elder' (by (with_reducible repeat (first | apply Kd.V_alloc | apply Kd.V_drewN | apply Kd.V_drew)); exact HO360.out) (Kd.R_base ho13) hb); have n2_ := Aside0.mk (Kd.R_lower (Kd.R_newM (M := fun k_ => (w.heap.size ≤ k_)) ho13 (below_size (by repeat (first | (with_reducible first | exact HB.out | apply below_alloc | apply pw_below_drewN | apply below_drew1) | exact HB.out))) (fun k_ h_ => h_)) (below_size (by repeat (first | (with_reducible first | exact HB.out | apply below_alloc | apply pw_below_drewN | apply below_drew1) | exact HB.out)))); have n3_ := Aside0.mk (below_step (by repeat (first | (with_reducible first | exact HB.out | apply below_alloc | apply pw_below_drewN | apply below_drew1) | exact HB.out)) hb); clear HO_0; clear HO360; clear HB; have HO_0 := n0_; have HO360 := n1_; have HO363 := n2_; have HB := n3_; clear n0_ n1_ n2_ n3_; clear hb ho13))
            go_loopg [27] kj2 (fun kq v27 w' => ∃ (x6_2 : List Int) (x27_2 : Int), v27 = .int .i64 x27_2 ∧ Aside0 (nat_Shl.l0 kq a1 x6_2 t358 (t358.length : Int) x27_2 = some (r1, r2)) ∧ Aside0 (kq ≤ kj2) ∧ Aside0 (Kd.R (Kd.int .u32) 31 w' w.heap.size (fun k_ => (w.heap.size ≤ k_)) v362 x6_2) ∧ Aside0 (Kd.V (Kd.int .u32) 31 w' w.heap.size (fun k_ => (P0_ k_ ∨ w.heap.size ≤ k_) ∧ some k_ ≠ (v362 : Value).ownBlock) (.slice Ao11 t358.length co11) t358) ∧ Aside0 (Below w.heap.size w w'))
            case atStart => exact ⟨(y361), (0), (by first | rfl | (simp; done) | (simp [*]; done)), H', ⟨Nat.le_refl _⟩, ⟨by (with_reducible repeat (first | apply Kd.R_alloc | apply Kd.R_drewN | apply Kd.R_drew)); exact Kd.R_mono HO363.out (fun _ hk => hk.1)⟩, ⟨by (with_reducible repeat (first | apply Kd.V_alloc | apply Kd.V_drewN | apply Kd.V_drew)); exact HO360.out⟩, ⟨by repeat (first | (with_reducible first | exact HB.out | apply below_alloc | apply pw_below_drewN | apply below_drew1) | exact HB.out)⟩⟩
            case round =>
              clear H'
              try clear c1
              try clear c2
              try clear p2
              try clear c4
              try clear c4b0
              try clear c4b1
              try clear c5
              try clear p6
              try clear c8
              try clear c8b0
              try clear c8b1
              try clear c9
              try clear c9b0
              try clear c9b1
              try clear p2
              obtain ⟨x6_2, x27_2, rfl, HA, HK2, HO_6, HO_25, HB⟩ := hrel
              cases gk with
              | zero => exact absurd HA.out (by simp [nat_Shl.l0])
              | succ k2 =>
                have H := HA.out
                clear HA
                simp only [nat_Shl.l0] at H
                by_cases c14 : x27_2 < (t358.length : Int)
                · rw [if_pos c14] at H
                  have c14b0 : decide (x27_2 < (t358.length : Int)) = true := decide_eq_true c14
                  clear c14
                  by_cases c15 : 0 ≤ x27_2
                  · rw [if_pos c15] at H
                    have c15b0 : decide (0 ≤ x27_2) = true := decide_eq_true c15
                    clear c15
                    by_cases c16 : x27_2 < (t358.length : Int)
                    · rw [if_pos c16] at H
                      have c16b0 : decide (x27_2 < (t358.length : Int)) = true := decide_eq_true c16
                      clear c16
                      obtain ⟨ji17, hji17⟩ : ∃ j_ : Int, (Int.tmod a1 32) = j_ := ⟨_, rfl⟩
                      replace H : (if 0 ≤ (ji17) then (if 0 ≤ (wrap64 ((wrap64 (Int.tdiv a1 32)) + x27_2)) then (if (wrap64 ((wrap64 (Int.tdiv a1 32)) + x27_2)) < (x6_2.length : Int) then (if 0 ≤ (wrap64 ((wrap64 ((wrap64 (Int.tdiv a1 32)) + x27_2)) + 1)) then (if (wrap64 ((wrap64 ((wrap64 (Int.tdiv a1 32)) + x27_2)) + 1)) < (x6_2.length : Int) then (nat_Shl.l0 k2 a1 ((x6_2.set ((wrap64 ((wrap64 (Int.tdiv a1 32)) + x27_2)) : Int).toNat (Go.bits .or .u32 (rd x6_2 (wrap64 ((wrap64 (Int.tdiv a1 32)) + x27_2))) ((shl .u64 (IntKind.u64.wrap (rd t358 x27_2)) (ji17)) % 4294967296))).set ((wrap64 ((wrap64 ((wrap64 (Int.tdiv a1 32)) + x27_2)) + 1)) : Int).toNat (((shl .u64 (IntKind.u64.wrap (rd t358 x27_2)) (ji17)) / 4294967296) % 4294967296)) t358 (t358.length : Int) (wrap64 (x27_2 + 1))) else (none)) else (none)) else (none)) else (none)) else (none)) = some (r1, r2) := by first | (rw [hji17] at H; exact H) | (simp only [hji17] at H ⊢; exact H)
                      by_cases c18 : 0 ≤ (ji17)
                      · rw [if_pos c18] at H
                        have c18b0 := eq_true c18
                        have c18b1 : decide (0 ≤ (ji17)) = true := decide_eq_true c18
                        clear c18
                        obtain ⟨ji19, hji19⟩ : ∃ j_ : Int, (shl .u64 (IntKind.u64.wrap (rd t358 x27_2)) (ji17)) = j_ := ⟨_, rfl⟩
                        replace H : (if 0 ≤ (wrap64 ((wrap64 (Int.tdiv a1 32)) + x27_2)) then (if (wrap64 ((wrap64 (Int.tdiv a1 32)) + x27_2)) < (x6_2.length : Int) then (if 0 ≤ (wrap64 ((wrap64 ((wrap64 (Int.tdiv a1 32)) + x27_2)) + 1)) then (if (wrap64 ((wrap64 ((wrap64 (Int.tdiv a1 32)) + x27_2)) + 1)) < (x6_2.length : Int) then (nat_Shl.l0 k2 a1 ((x6_2.set ((wrap64 ((wrap64 (Int.tdiv a1 32)) + x27_2)) : Int).toNat (Go.bits .or .u32 (rd x6_2 (wrap64 ((wrap64 (Int.tdiv a1 32)) + x27_2))) ((ji19) % 4294967296))).set ((wrap64 ((wrap64 ((wrap64 (Int.tdiv a1 32)) + x27_2)) + 1)) : Int).toNat (((ji19) / 4294967296) % 4294967296)) t358 (t358.length : Int) (wrap64 (x27_2 + 1))) else (none)) else (none)) else (none)) else (none)) = some (r1, r2) := by first | (rw [hji19] at H; exact H) | (simp only [hji19] at H ⊢; exact H)
                        have hji19_ : (IntKind.u64.wrap ((IntKind.u64.wrap (rd t358 x27_2)) * 2 ^ min (ji17).toNat 64)) = ji19 := hji19
                        have hji19z : (ji17) ≤ 64 → (IntKind.u64.wrap ((IntKind.u64.wrap (rd t358 x27_2)) * 2 ^ (ji17).toNat)) = ji19 := shl_small hji19
                        obtain ⟨ji20, hji20⟩ : ∃ j_ : Int, (wrap64 ((wrap64 (Int.tdiv a1 32)) + x27_2)) = j_ := ⟨_, rfl⟩
                        replace H : (if 0 ≤ (ji20) then (if (ji20) < (x6_2.length : Int) then (if 0 ≤ (wrap64 ((ji20) + 1)) then (if (wrap64 ((ji20) + 1)) < (x6_2.length : Int) then (nat_Shl.l0 k2 a1 ((x6_2.set ((ji20) : Int).toNat (Go.bits .or .u32 (rd x6_2 (ji20)) ((ji19) % 4294967296))).set ((wrap64 ((ji20) + 1)) : Int).toNat (((ji19) / 4294967296) % 4294967296)) t358 (t358.length : Int) (wrap64 (x27_2 + 1))) else (none)) else (none)) else (none)) else (none)) = some (r1, r2) := by first | (rw [hji20] at H; exact H) | (simp only [hji20] at H ⊢; exact H)
                        have hji20w : (IntKind.i64.wrap ((wrap64 (Int.tdiv a1 32)) + x27_2)) = ji20 := (i64_w _).trans hji20
                        by_cases c21 : 0 ≤ (ji20)
                        · rw [if_pos c21] at H
                          have c21b0 : decide (0 ≤ (ji20)) = true := decide_eq_true c21
                          clear c21
                          by_cases c22 : (ji20) < (x6_2.length : Int)
                          · rw [if_pos c22] at H
                            have c22b0 : decide ((ji20) < (x6_2.length : Int)) = true := decide_eq_true c22
                            clear c22
                            obtain ⟨y366, hy366⟩ : ∃ y_ : List Int, y_ = (x6_2.set ((ji20) : Int).toNat (Go.bits .or .u32 (rd x6_2 (ji20)) ((ji19) % 4294967296))) := ⟨_, rfl⟩
                            replace H : (if 0 ≤ (wrap64 ((ji20) + 1)) then (if (wrap64 ((ji20) + 1)) < (x6_2.length : Int) then (nat_Shl.l0 k2 a1 (y366.set ((wrap64 ((ji20) + 1)) : Int).toNat (((ji19) / 4294967296) % 4294967296)) t358 (t358.length : Int) (wrap64 (x27_2 + 1))) else (none)) else (none)) = some (r1, r2) := by first | (rw [hy366]; with_reducible exact H) | (have H2_ := (Option.bind_some _ _).symm.trans H; rw [hy366]; with_reducible exact H2_) | (have H2_ := (Option.bind_some _ _).symm.trans H; with_reducible exact H2_) | with_reducible exact H | (rw [hy366]; exact H) | exact H
                            have Ny366 := Aside0.mk hy366
                            clear hy366
                            obtain ⟨ji24, hji24⟩ : ∃ j_ : Int, (wrap64 ((ji20) + 1)) = j_ := ⟨_, rfl⟩
                            replace H : (if 0 ≤ (ji24) then (if (ji24) < (x6_2.length : Int) then (nat_Shl.l0 k2 a1 (y366.set ((ji24) : Int).toNat (((ji19) / 4294967296) % 4294967296)) t358 (t358.length : Int) (wrap64 (x27_2 + 1))) else (none)) else (none)) = some (r1, r2) := by first | (rw [hji24] at H; exact H) | (simp only [hji24] at H ⊢; exact H)
                            have hji24w : (IntKind.i64.wrap ((ji20) + 1)) = ji24 := (i64_w _).trans hji24
                            by_cases c25 : 0 ≤ (ji24)
                            · rw [if_pos c25] at H
                              have c25b0 : decide (0 ≤ (ji24)) = true := decide_eq_true c25
                              clear c25
                              by_cases c26 : (ji24) < (x6_2.length : Int)
                              · rw [if_pos c26] at H
                                have c26b0 : decide ((ji24) < (x6_2.length : Int)) = true := decide_eq_true c26
                                clear c26
                                obtain ⟨y367, hy367⟩ : ∃ y_ : List Int, y_ = (y366.set ((ji24) : Int).toNat (((ji19) / 4294967296) % 4294967296)) := ⟨_, rfl⟩
                                replace H : (nat_Shl.l0 k2 a1 y367 t358 (t358.length : Int) (wrap64 (x27_2 + 1))) = some (r1, r2) := by first | (rw [hy367]; with_reducible exact H) | (have H2_ := (Option.bind_some _ _).symm.trans H; rw [hy367]; with_reducible exact H2_) | (have H2_ := (Option.bind_some _ _).symm.trans H; with_reducible exact H2_) | with_reducible exact H | (rw [hy367]; exact H) | exact H
                                have Ny367 := Aside0.mk hy367
                                clear hy367
                                have H' := Aside0.mk H
                                clear H
                                have p364 : 0 ≤ (x27_2 : Int) := of_decide_eq_true (by first | (with_reducible assumption) | assumption)
                                have q364 : x27_2 < (t358.length : Int) := of_decide_eq_true (by first | (with_reducible assumption) | assumption)
                                obtain ⟨ad364, e364, hx364_0⟩ := Kd.at_int (Kd.V_reads' HO_25.out).2.2 x27_2 p364 q364
                                cases e364
                                replace p364 := eq_true p364
                                replace q364 := eq_true q364
                                obtain ⟨Ao28, co28, eo28⟩ := Kd.R_slice HO_6.out
                                subst eo28
                                have p365 : 0 ≤ ((ji20) : Int) := of_decide_eq_true (by first | (with_reducible assumption) | assumption)
                                have q365 : (ji20) < (x6_2.length : Int) := of_decide_eq_true (by first | (with_reducible assumption) | assumption)
                                obtain ⟨ad365, e365, hx365_0⟩ := Kd.at_int (Kd.R_reads' HO_6.out).2.2 (ji20) p365 q365
                                cases e365
                                replace p365 := eq_true p365
                                replace q365 := eq_true q365
                                have p23 : 0 ≤ ((ji20) : Int) := of_decide_eq_true (by first | (with_reducible assumption) | assumption)
                                have q23 : ((ji20) : Int) < ((x6_2.length : Int) : Int) := of_decide_eq_true (by first | (with_reducible assumption) | assumption)
                                obtain ⟨go23, co23, eo23, gb23, gl23, cl23, HG23⟩ := Kd.R_form HO_6.out (by omega)
                                (first | cases eo23 | (injection eo23 with ea_ en_ ec_; (first | subst ea_ | (injection ea_ with ea_; subst ea_)); subst ec_; clear en_))
                                have GB23 := Aside0.mk gb23
                                have GG23 := Aside0.mk HG23
                                clear gb23 gl23 HG23
                                (first | simp only [add_plain] at hx365_0 | skip)
                                obtain ⟨hx23_0, hf23_0⟩ := Kd.R_celln 0 HO_6.out ((ji20) : Int) p23 q23
                                replace p23 := eq_true p23
                                replace q23 := eq_true q23
                                have HP29 := Kd.R_putg HO_6.out ((ji20) : Int) (Go.bits .or .u32 (rd x6_2 (ji20)) ((ji19) % 4294967296))
                                go_wp2_with (first | ((with_reducible refine gate_store (t := 31) (p := 47) rfl ?_); refine store_event (t := 31) (p := 47) (v := ?vo_w30) (w1 := (wr.setCell ⟨go23, ((ji20) : Int).toNat, none⟩ (.int .u32 (Go.bits .or .u32 (rd x6_2 (ji20)) ((ji19) % 4294967296))))) ?hg ?ho ?hn ?hr ?_; (case ho => rfl); (case hg => rfl); (case hn => rfl); (case hr => first | (go_simp; done) | (go_simp; rfl)); intro w30 hw; have hg : wr.grownBy w30 (some go23) := (by rw [hw]; exact HP29.2); have hp_ : Kd.R (Kd.int .u32) 31 w30 w.heap.size (fun k_ => (w.heap.size ≤ k_)) (.slice (some ⟨go23, 0, none⟩) x6_2.length co28) y366 := (by rw [hw, Ny366.out]; exact HP29.1); clear HP29; have n0_ := Aside0.mk (hp_); have n1_ := Aside0.mk (Kd.V_afterv (v := (.slice (some ⟨go23, 0, none⟩) x6_2.length co28)) (v1 := (.slice (some ⟨go23, 0, none⟩) x6_2.length co28)) (ok := (fun k_ => (P0_ k_ ∨ w.heap.size ≤ k_))) (by (with_reducible repeat (first | apply Kd.V_alloc | apply Kd.V_drewN | apply Kd.V_drew)); exact HO_25.out) hg (.inl rfl)); have n2_ := Aside0.mk ((by rw [hw]; exact below_set (HB.out) GB23.out : Below w.heap.size w w30)); clear HO_6; clear HO_25; clear HB; have HO_6 := n0_; have HO_25 := n1_; have HB := n2_; clear n0_ n1_ n2_; clear hg hw hp_; have p27 : 0 ≤ ((ji24) : Int) := of_decide_eq_true (by first | (with_reducible assumption) | assumption); have q27 : ((ji24) : Int) < ((x6_2.length : Int) : Int) := of_decide_eq_true (by first | (with_reducible assumption) | assumption); obtain ⟨hx27_0, hf27_0⟩ := Kd.R_celln 0 HO_6.out ((ji24) : Int) p27 q27; replace p27 := eq_true p27; replace q27 := eq_true q27; obtain ⟨hy31_, hz31_⟩ := Kd.R_celln 0 HO_6.out ((ji24) : Int) (of_decide_eq_true (by first | (with_reducible assumption) | assumption)) (of_decide_eq_true (by first | (with_reducible assumption) | assumption)); have HP31 := Kd.R_putg HO_6.out ((ji24) : Int) (((ji19) / 4294967296) % 4294967296)) | ((with_reducible refine gate_store (t := 31) (p := 57) rfl ?_); refine store_event (t := 31) (p := 57) (v := ?vo_w32) (w1 := (w30.setCell ⟨go23, ((ji24) : Int).toNat, none⟩ (.int .u32 (((ji19) / 4294967296) % 4294967296)))) ?hg ?ho ?hn ?hr ?_; (case ho => rfl); (case hg => rfl); (case hn => rfl); (case hr => first | (go_simp; done) | (go_simp; rfl)); intro w32 hw; have hg : w30.grownBy w32 (some go23) := (by rw [hw]; exact HP31.2); have hp_ : Kd.R (Kd.int .u32) 31 w32 w.heap.size (fun k_ => (w.heap.size ≤ k_)) (.slice (some ⟨go23, 0, none⟩) x6_2.length co28) y367 := (by rw [hw, Ny367.out]; exact HP31.1); clear HP31; have n0_ := Aside0.mk (hp_); have n1_ := Aside0.mk (Kd.V_afterv (v := (.slice (some ⟨go23, 0, none⟩) x6_2.length co28)) (v1 := (.slice (some ⟨go23, 0, none⟩) x6_2.length co28)) (ok := (fun k_ => (P0_ k_ ∨ w.heap.size ≤ k_))) (by (with_reducible repeat (first | apply Kd.V_alloc | apply Kd.V_drewN | apply Kd.V_drew)); exact HO_25.out) hg (.inl rfl)); have n2_ := Aside0.mk ((by rw [hw]; exact below_set (HB.out) GB23.out : Below w.heap.size w w32)); clear HO_6; clear HO_25; clear HB; have HO_6 := n0_; have HO_25 := n1_; have HB := n2_; clear n0_ n1_ n2_; clear hg hw hp_))
                                go_roundg k2
                                case measure => have := HJ2.out; have := HK2.out; omega
                                case rel => exact ⟨(y367), (wrap64 (x27_2 + 1)), (by first | rfl | (simp; done) | (simp [*]; done)), H', ⟨by have := HJ2.out; have := HK2.out; omega⟩, ⟨by (with_reducible repeat (first | apply Kd.R_alloc | apply Kd.R_drewN | apply Kd.R_drew)); exact HO_6.out⟩, ⟨by (with_reducible repeat (first | apply Kd.V_alloc | apply Kd.V_drewN | apply Kd.V_drew)); exact HO_25.out⟩, ⟨by repeat (first | (with_reducible first | exact HB.out | apply below_alloc | apply pw_below_drewN | apply below_drew1) | exact HB.out)⟩⟩
                              · rw [if_neg c26] at H
                                exact absurd H (by simp)
                            · rw [if_neg c25] at H
                              exact absurd H (by simp)
                          · rw [if_neg c22] at H
                            exact absurd H (by simp)
                        · rw [if_neg c21] at H
                          exact absurd H (by simp)
                      · rw [if_neg c18] at H
                        exact absurd H (by simp)
                    · rw [if_neg c16] at H
                      exact absurd H (by simp)
                  · rw [if_neg c15] at H
                    exact absurd H (by simp)
                · rw [if_neg c14] at H
                  have c14b0 : decide (x27_2 < (t358.length : Int)) = false := decide_eq_false c14
                  clear c14
                  replace H := Option.bind_eq_some_iff.mp H
                  obtain ⟨t368, A330, H⟩ := H
                  replace H : (some (t368, true)) = some (r1, r2) := H
                  have A33 := Aside0.mk A330
                  clear A330
                  simp only [Option.some.injEq, Prod.mk.injEq] at H
                  obtain ⟨rfl, rfl⟩ := H
                  obtain ⟨Ao34, co34, eo34⟩ := Kd.R_slice HO_6.out
                  subst eo34
                  go_wp2_with (first | ((with_reducible refine gate_callee (f := 25) rfl ?_); refine goesL_ (some 60) rfl rfl Try.func25 (by kernel_rfl) rfl #[.slice Ao34 x6_2.length co34] rfl (by (try simp only [List.map_toArray, List.map_cons, List.map_nil]); first | done | rfl | (simp only [List.length_drop, List.length_take]; rfl)) ?_; (with_reducible refine (nat_trim.calls k2 (fun k_ => some k_ = (.slice Ao34 x6_2.length co34 : Value).ownBlock) _ _ x6_2 t368 _ ?side1 A33.out).mono ?_); (case side1 => exact Kd.R_V (Kd.R_tight rfl (HO_6.out))); rintro e w35 ⟨v369, rfl, ho0, hb⟩; refine ⟨_, rfl, ?_⟩; have n0_ := Aside0.mk (Kd.R_below (by (with_reducible repeat (first | apply Kd.R_alloc | apply Kd.R_drewN | apply Kd.R_drew)); exact HO_6.out) hb); have n1_ := Aside0.mk (Kd.V_below (by (with_reducible repeat (first | apply Kd.V_alloc | apply Kd.V_drewN | apply Kd.V_drew)); exact HO_25.out) hb); have n2_ := Aside0.mk (Kd.V_lower (Kd.V_mono (ok' := fun k_ => (P0_ k_ ∨ w.heap.size ≤ k_)) ho0 (fun k_ hk_ => Or.elim hk_ (fun hs_ => (.inr (((HO_6.out).1 k_ hs_.symm)))) (fun hn_ => (.inr (Nat.le_trans (below_size (by repeat (first | (with_reducible first | exact HB.out | apply below_alloc | apply pw_below_drewN | apply below_drew1) | exact HB.out))) hn_))))) (below_size (by repeat (first | (with_reducible first | exact HB.out | apply below_alloc | apply pw_below_drewN | apply below_drew1) | exact HB.out)))); have n3_ := Aside0.mk (below_step (by repeat (first | (with_reducible first | exact HB.out | apply below_alloc | apply pw_below_drewN | apply below_drew1) | exact HB.out)) hb); clear HO_6; clear HO_25; clear HB; have HO_6 := n0_; have HO_25 := n1_; have HO370 := n2_; have HB := n3_; clear n0_ n1_ n2_ n3_; (try clear hb); (try clear hb2); (try clear hk); (try clear hi); (try clear ho0)))
                  go_ret2
                  exact ⟨_, by first | rfl | (simp [errW_none, errW_some] <;> rfl) | (simp only [← hji7]; first | rfl | (simp [errW_none, errW_some] <;> rfl)) | (simp [*, errW_none, errW_some] <;> rfl), by (with_reducible repeat (first | apply Kd.V_alloc | apply Kd.V_drewN | apply Kd.V_drew)); exact HO370.out, by repeat (first | (with_reducible first | exact HB.out | apply below_alloc | apply pw_below_drewN | apply below_drew1) | exact HB.out)⟩
          · rw [if_neg c9] at H
            exact absurd H (by simp)
        · rw [if_neg c8] at H
          exact absurd H (by simp)

end Go.Proofs.Ytpodpfppbkjbcaa.P
