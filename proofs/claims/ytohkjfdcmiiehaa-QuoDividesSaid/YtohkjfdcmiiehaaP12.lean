/- What the Go functions of these names come to, as plain Lean functions, and the walks that show it. Written for this claim by a turned copy of the print program; Lean checks it. -/
import Derived.Test.YtohkjfdcmiiehaaP0
import Derived.Test.YtohkjfdcmiiehaaP5
namespace Go.Proofs.Ytohkjfdcmiiehaa.P
open Go.RowKit Go.Proofs.YtohkjfdcmiiehaaW.PrintWords Go.Proofs.YtohkjfdcmiiehaaW.PrintLast Go.Proofs.YtohkjfdcmiiehaaW.PrintMore
attribute [local go_sem] max2_int min2_int max_two min_two max_three min_three max_four min_four   -- for this text's walks alone
set_option linter.unusedVariables false
set_option linter.unusedSimpArgs false

/-! ### astrolaberef03_short: function 30 -/
def astrolaberef03_short.l0 : Nat → List Int → Int → List Int → Int → Int → Option (List Int × List Int)
  | 0, _, _, _, _, _ => none
  | k + 1, x0, x1, x6, x7, x8 => if x8 ≥ 0 then (if 0 ≤ x8 then (if x8 < (x0.length : Int) then (if x1 = 0 then (none) else (if x8 < (x6.length : Int) then (astrolaberef03_short.l0 k x0 x1 (x6.set (x8 : Int).toNat ((IntKind.u64.wrap (Int.tdiv (Go.bits .or .u64 (IntKind.u64.wrap (x7 * 4294967296)) (IntKind.u64.wrap (rd x0 x8))) x1)) % 4294967296)) (Int.tmod (Go.bits .or .u64 (IntKind.u64.wrap (x7 * 4294967296)) (IntKind.u64.wrap (rd x0 x8))) x1) (wrap64 (x8 - 1))) else (none))) else (none)) else (none)) else ((astrolaberef01_Trim.f k x6).bind fun t430 => ((astrolaberef01_From.f k x7).bind fun t433 => (some (t430, t433))))
def astrolaberef03_short.f (k : Nat) (l0 : List Int) (a1 : Int) : Option (List Int × List Int) := if 0 ≤ (l0.length : Int) then (if ((l0.length : Int) : Int).toNat ≤ 70368744177664 then (astrolaberef03_short.l0 k l0 a1 (List.replicate ((l0.length : Int) : Int).toNat 0) 0 (wrap64 ((l0.length : Int) - 1))) else (none)) else (none)
theorem astrolaberef03_short.mono_l : ∀ k, (∀ y0 y1 y2 y3 y4, LeO (astrolaberef03_short.l0 k y0 y1 y2 y3 y4) (astrolaberef03_short.l0 (k + 1) y0 y1 y2 y3 y4))
  | 0 => fun _ _ _ _ _ r h => by simp [astrolaberef03_short.l0] at h
  | k + 1 => by
    have ih0 := astrolaberef03_short.mono_l k
    · intro y0 y1 y2 y3 y4
      unfold astrolaberef03_short.l0
      repeat' first
      | (with_reducible exact ih0 _ _ _ _ _)
      | (with_reducible exact astrolaberef01_From.mono _ _)
      | (with_reducible exact astrolaberef01_Trim.mono _ _)
      | (with_reducible exact LeO.refl _)
      | (with_reducible exact LeO.none _)
      | (with_reducible refine LeO.ite ?_ ?_)
      | (with_reducible refine LeO.bind ?_ (fun _ => ?_))
      | exact ih0 _ _ _ _ _
      | exact astrolaberef01_From.mono _ _
      | exact astrolaberef01_Trim.mono _ _
      | exact LeO.none _
      | refine LeO.ite ?_ ?_
      | refine LeO.bind ?_ (fun _ => ?_)
theorem astrolaberef03_short.mono : ∀ a0 a1 k, LeO (astrolaberef03_short.f k a0 a1) (astrolaberef03_short.f (k + 1) a0 a1) := by
  intro a0 a1 k
  have ih0 := astrolaberef03_short.mono_l k
  unfold astrolaberef03_short.f
  repeat' first
      | (with_reducible exact ih0 _ _ _ _ _)
      | (with_reducible exact astrolaberef01_From.mono _ _)
      | (with_reducible exact astrolaberef01_Trim.mono _ _)
      | (with_reducible exact LeO.refl _)
      | (with_reducible exact LeO.none _)
      | (with_reducible refine LeO.ite ?_ ?_)
      | (with_reducible refine LeO.bind ?_ (fun _ => ?_))
      | exact ih0 _ _ _ _ _
      | exact astrolaberef01_From.mono _ _
      | exact astrolaberef01_Trim.mono _ _
      | exact LeO.none _
      | refine LeO.ite ?_ ?_
      | refine LeO.bind ?_ (fun _ => ?_)
set_option maxHeartbeats 8000000 in
set_option maxRecDepth 100000 in
theorem astrolaberef03_short.calls (k : Nat) (A0 : Option Addr) (c0 : Nat) (l0 : List Int) (a1 : Int) (r1 : List Int) (r2 : List Int) (w : World) (hr0 : Kd.C (Kd.int .u32) w A0 l0.length l0) (hc0 : l0.length ≤ c0) (h : astrolaberef03_short.f k l0 a1 = some (r1, r2)) :
    Calls Try.prog 30 #[.slice A0 l0.length c0, .int .u64 a1] w fun e w' => ∃ v0_ v1_ : Value, e = .returned (.tuple #[v0_, v1_]) ∧ Kd.R (Kd.int .u32) 37 w' w.heap.size (fun k_ => some k_ ≠ (v1_ : Value).ownBlock) v0_ r1 ∧ Kd.R (Kd.int .u32) 37 w' w.heap.size (fun k_ => some k_ ≠ (v0_ : Value).ownBlock) v1_ r2 ∧ Below w.heap.size w w' := by
  have HR0 := A0_ hr0
  have HC0 := A0_ hc0
  clear hr0 hc0
  have HB := A0_ (Below.refl w.heap.size w)
  have H : (if 0 ≤ (l0.length : Int) then (if ((l0.length : Int) : Int).toNat ≤ 70368744177664 then (astrolaberef03_short.l0 k l0 a1 (List.replicate ((l0.length : Int) : Int).toNat 0) 0 (wrap64 ((l0.length : Int) - 1))) else (none)) else (none)) = some (r1, r2) := h
  clear h
  by_cases c3 : 0 ≤ (l0.length : Int)
  case neg => rw [if_neg c3] at H; exact absurd H (by simp)
  rw [if_pos c3] at H
  have c3b0 := eq_true c3
  have c3b1 : decide (0 ≤ (l0.length : Int)) = true := decide_eq_true c3
  clear c3
  by_cases c4 : ((l0.length : Int) : Int).toNat ≤ 70368744177664
  case neg => rw [if_neg c4] at H; exact absurd H (by simp)
  rw [if_pos c4] at H
  have c4b0 := eq_true c4
  have c4b1 : decide (((l0.length : Int) : Int).toNat ≤ 70368744177664) = true := decide_eq_true c4
  clear c4
  obtain ⟨y425, hy425⟩ : ∃ y_ : List Int, y_ = (List.replicate ((l0.length : Int) : Int).toNat 0) := ⟨_, rfl⟩
  replace H : (astrolaberef03_short.l0 k l0 a1 y425 0 (wrap64 ((l0.length : Int) - 1))) = some (r1, r2) := by first | (rw [hy425]; with_reducible exact H) | (rw [hy425]; exact H) | exact H
  have Ny425 := A0_ hy425
  clear hy425
  have H' := A0_ H
  clear H
  go_enter Try.func30, Try.ntmps30
  go_wp2_with (first | ((with_reducible refine gate_dst (N := 11) rfl ?_); refine Kd.R_make (Kd.int .u32) _ 37 rfl (N := 11) rfl 22 _ _ rfl (l0.length : Int) rfl rfl Try.underlying22 (.int .u32 0) 4 info37 rfl (by decide) (by omega) 0 (ok := fun _ => True) (okp := fun _ => True) rfl (fun _ hk => hk) trivial od_ (Nat.le_trans (Nat.mul_le_mul_right _ (od_ : (l0.length : Int).toNat ≤ 70368744177664)) (by omega)) (Below.refl _ _) (Nat.le_refl _) ?_; intro v426 w5 ho6 hb hg_ hnew_; clear hg_ hnew_; (first | rw [← Ny425.out] at ho6 | (simp only [Int.reduceToNat] at ho6; rw [← Ny425.out] at ho6)); have n0_ := A0_ (Kd.R_lower ho6 (below_size bl_)); have n1_ := A0_ (below_step bl_ hb); clear HB; have HO427 := n0_; have HB := n1_; clear n0_ n1_; clear hb ho6))
  go_loopg [7, 8] k (fun kq v7 v8 w' => ∃ (x6_1 : List Int) (x7_1 : Int) (x8_1 : Int), v7 = .int .u64 x7_1 ∧ v8 = .int .i64 x8_1 ∧ Aside0 (astrolaberef03_short.l0 kq l0 a1 x6_1 x7_1 x8_1 = some (r1, r2)) ∧ Aside0 (kq ≤ k) ∧ Aside0 (Kd.R (Kd.int .u32) 37 w' w.heap.size (fun _ => True) v426 x6_1) ∧ Aside0 (Below w.heap.size w w'))
  case atStart => exact ⟨(y425), (0), (wrap64 ((l0.length : Int) - 1)), rs_, rs_, H', ⟨Nat.le_refl _⟩, ⟨mvR HO427.out⟩, ⟨bl_⟩⟩
  case round =>
    clear H'
    (try clear p2); (try clear c3); (try clear c3b0); (try clear c3b1); (try clear c4); (try clear c4b0); (try clear c4b1); (try clear p6)
    obtain ⟨x6_1, x7_1, x8_1, rfl, rfl, HA, HK1, HO_6, HB⟩ := hrel
    cases gk with
    | zero => exact absurd HA.out (by simp [astrolaberef03_short.l0])
    | succ k1 =>
      have H := HA.out
      clear HA
      simp only [astrolaberef03_short.l0] at H
      by_cases c7 : x8_1 ≥ 0
      · rw [if_pos c7] at H
        have c7b0 : decide (0 ≤ x8_1) = true := decide_eq_true c7
        clear c7
        by_cases c8 : 0 ≤ x8_1
        case neg => rw [if_neg c8] at H; exact absurd H (by simp)
        rw [if_pos c8] at H
        have c8b0 : decide (0 ≤ x8_1) = true := decide_eq_true c8
        clear c8
        by_cases c9 : x8_1 < (l0.length : Int)
        case neg => rw [if_neg c9] at H; exact absurd H (by simp)
        rw [if_pos c9] at H
        have c9b0 : decide (x8_1 < (l0.length : Int)) = true := decide_eq_true c9
        clear c9
        by_cases c10 : a1 = 0
        · rw [if_pos c10] at H
          exact absurd H (by simp)
        · rw [if_neg c10] at H
          have c10b0 : (a1 == 0) = false := beq_eq_false_iff_ne.mpr c10
          have c10b1 : (a1 != 0) = true := bne_iff_ne.mpr c10
          by_cases c11 : x8_1 < (x6_1.length : Int)
          case neg => rw [if_neg c11] at H; exact absurd H (by simp)
          rw [if_pos c11] at H
          have c11b0 : decide (x8_1 < (x6_1.length : Int)) = true := decide_eq_true c11
          clear c11
          obtain ⟨y429, hy429⟩ : ∃ y_ : List Int, y_ = (x6_1.set (x8_1 : Int).toNat ((IntKind.u64.wrap (Int.tdiv (Go.bits .or .u64 (IntKind.u64.wrap (x7_1 * 4294967296)) (IntKind.u64.wrap (rd l0 x8_1))) a1)) % 4294967296)) := ⟨_, rfl⟩
          replace H : (astrolaberef03_short.l0 k1 l0 a1 y429 (Int.tmod (Go.bits .or .u64 (IntKind.u64.wrap (x7_1 * 4294967296)) (IntKind.u64.wrap (rd l0 x8_1))) a1) (wrap64 (x8_1 - 1))) = some (r1, r2) := by first | (rw [hy429]; with_reducible exact H) | (rw [hy429]; exact H) | exact H
          have Ny429 := A0_ hy429
          clear hy429
          have H' := A0_ H
          clear H
          have p428 : 0 ≤ (x8_1 : Int) := od_
          have q428 : x8_1 < (l0.length : Int) := od_
          obtain ⟨ad428, e428, hx428_0⟩ := Kd.at_int HR0.out x8_1 p428 q428
          cases e428
          replace hx428_0 := (HB.out.cell (World.block_lt_of_cell? w _ hx428_0)).trans hx428_0
          replace p428 := eq_true p428
          replace q428 := eq_true q428
          have p12 : 0 ≤ (x8_1 : Int) := od_
          have q12 : (x8_1 : Int) < ((x6_1.length : Int) : Int) := od_
          obtain ⟨go12, co12, eo12, gb12, gl12, cl12, HG12⟩ := Kd.R_form HO_6.out (by omega)
          (first | cases eo12 | (injection eo12 with ea_ en_ ec_; (first | subst ea_ | (injection ea_ with ea_; subst ea_)); subst ec_; clear en_))
          have GB12 := A0_ gb12
          have GG12 := A0_ HG12
          clear gb12 gl12 HG12
          obtain ⟨hx12_0, hf12_0⟩ := Kd.R_celln 0 HO_6.out (x8_1 : Int) p12 q12
          replace p12 := eq_true p12
          replace q12 := eq_true q12
          have HP13 := Kd.R_putg HO_6.out (x8_1 : Int) ((IntKind.u64.wrap (Int.tdiv (Go.bits .or .u64 (IntKind.u64.wrap (x7_1 * 4294967296)) (IntKind.u64.wrap (rd l0 x8_1))) a1)) % 4294967296)
          go_wp2_with (first | ((with_reducible refine gate_store (t := 37) (p := 33) rfl ?_); refine store_event (t := 37) (p := 33) (v := ?vo_w14) (w1 := (wr.setCell ⟨go12, (x8_1 : Int).toNat, none⟩ (.int .u32 ((IntKind.u64.wrap (Int.tdiv (Go.bits .or .u64 (IntKind.u64.wrap (x7_1 * 4294967296)) (IntKind.u64.wrap (rd l0 x8_1))) a1)) % 4294967296)))) ?hg ?ho ?hn ?hr ?_; (case ho => rfl); (case hg => rfl); (case hn => rfl); (case hr => first | (go_simp; done) | (go_simp; rfl)); intro w14 hw; have hg : wr.grownBy w14 (some go12) := (by rw [hw]; exact HP13.2); have hp_ : Kd.R (Kd.int .u32) 37 w14 w.heap.size (fun _ => True) (.slice (some ⟨go12, 0, none⟩) x6_1.length co12) y429 := (by rw [hw, Ny429.out]; exact HP13.1); clear HP13; have n0_ := A0_ (hp_); have n1_ := A0_ ((by rw [hw]; exact below_set (HB.out) GB12.out : Below w.heap.size w w14)); clear HO_6; clear HB; have HO_6 := n0_; have HB := n1_; clear n0_ n1_; clear hg hw hp_))
          go_roundg k1
          case measure => have := HK1.out; omega
          case rel => exact ⟨(y429), (Int.tmod (Go.bits .or .u64 (IntKind.u64.wrap (x7_1 * 4294967296)) (IntKind.u64.wrap (rd l0 x8_1))) a1), (wrap64 (x8_1 - 1)), rs_, rs_, H', ⟨by have := HK1.out; omega⟩, ⟨mvR HO_6.out⟩, ⟨bl_⟩⟩
      · rw [if_neg c7] at H
        have c7b0 : decide (0 ≤ x8_1) = false := decide_eq_false c7
        clear c7
        replace H := Option.bind_eq_some_iff.mp H
        obtain ⟨t430, A150, H⟩ := H
        (try dsimp only at H)
        have A15 := A0_ A150
        clear A150
        replace H := Option.bind_eq_some_iff.mp H
        obtain ⟨t433, A160, H⟩ := H
        (try dsimp only at H)
        have A16 := A0_ A160
        clear A160
        simp only [Option.some.injEq, Prod.mk.injEq] at H
        obtain ⟨rfl, rfl⟩ := H
        obtain ⟨Ao17, co17, eo17⟩ := Kd.R_slice HO_6.out
        subst eo17
        go_wp2_with (first | ((with_reducible refine gate_callee (f := 29) rfl ?_); refine goesM_ (some 38) Try.func29 #[.slice Ao17 x6_1.length co17] rfl ?_; (with_reducible refine (astrolaberef01_Trim.calls k1 _ _ x6_1 t430 _ ?side1 ?side2 A15.out).mono ?_); (case side1 => exact mvC (Kd.R_reads' HO_6.out).2.2); (case side2 => exact (Kd.R_reads' HO_6.out).2.1); rintro e w18 ⟨v431, rfl, ho0, hb⟩; refine ⟨_, rfl, ?_⟩; have n0_ := A0_ (Kd.R_elder' (mvR HO_6.out) (Kd.R_base ho0) hb); have n1_ := A0_ (Kd.R_lower (Kd.R_new' ho0 (Kd.R_lt (mvR HO_6.out))) (below_size bl_)); have n2_ := A0_ (below_step bl_ hb); clear HO_6; clear HB; have HO_6 := n0_; have HO432 := n1_; have HB := n2_; clear n0_ n1_ n2_; (try clear hb); (try clear hb2); (try clear hk); (try clear hi); (try clear ho0)) | ((with_reducible refine gate_callee (f := 36) rfl ?_); refine goesM_ (some 40) Try.func36 #[.int .u64 x7_1] rfl ?_; (with_reducible refine (astrolaberef01_From.calls k1 x7_1 t433 _ A16.out).mono ?_); rintro e w19 ⟨v434, rfl, ho0, hb⟩; refine ⟨_, rfl, ?_⟩; have n0_ := A0_ (Kd.R_elder' (mvR HO_6.out) (Kd.R_base ho0) hb); have n1_ := A0_ (Kd.R_elder' (mvR HO432.out) (Kd.R_base ho0) hb); have n2_ := A0_ (Kd.R_lower (Kd.R_new' (Kd.R_new' ho0 (Kd.R_lt (mvR HO_6.out))) (Kd.R_lt (mvR HO432.out))) (below_size bl_)); have n3_ := A0_ (below_step bl_ hb); clear HO_6; clear HO432; clear HB; have HO_6 := n0_; have HO432 := n1_; have HO435 := n2_; have HB := n3_; clear n0_ n1_ n2_ n3_; (try clear hb); (try clear hb2); (try clear hk); (try clear hi); (try clear ho0)))
        go_ret2
        exact ⟨_, _, by first | rfl | (simp [errW_none, errW_some] <;> rfl) | (simp [*, errW_none, errW_some] <;> rfl), mvR (Kd.R_mono HO432.out (fun _ hk => hk.2)), mvR (Kd.R_mono HO435.out (fun _ hk => hk.2)), bl_⟩

/-! ### astrolaberef03_guess: function 33 -/
def astrolaberef03_guess.f (l0 : List Int) (l1 : List Int) : Option (Int) := if (l0.length : Int) < (l1.length : Int) then (some 0) else (if 0 ≤ (wrap64 ((l1.length : Int) - 1)) then (if (wrap64 ((l1.length : Int) - 1)) < (l0.length : Int) then (if (l0.length : Int) > (l1.length : Int) then (if 0 ≤ (l1.length : Int) then (if (l1.length : Int) < (l0.length : Int) then (if (wrap64 ((l1.length : Int) - 1)) < (l1.length : Int) then (if (IntKind.u64.wrap (rd l1 (wrap64 ((l1.length : Int) - 1)))) = 0 then (none) else (some (mn (IntKind.u64.wrap (Int.tdiv (Go.bits .or .u64 (IntKind.u64.wrap (rd l0 (wrap64 ((l1.length : Int) - 1)))) (IntKind.u64.wrap ((IntKind.u64.wrap (rd l0 (l1.length : Int))) * 4294967296))) (IntKind.u64.wrap (rd l1 (wrap64 ((l1.length : Int) - 1)))))) 4294967295))) else (none)) else (none)) else (none)) else (if (wrap64 ((l1.length : Int) - 1)) < (l1.length : Int) then (if (IntKind.u64.wrap (rd l1 (wrap64 ((l1.length : Int) - 1)))) = 0 then (none) else (some (mn (IntKind.u64.wrap (Int.tdiv (IntKind.u64.wrap (rd l0 (wrap64 ((l1.length : Int) - 1)))) (IntKind.u64.wrap (rd l1 (wrap64 ((l1.length : Int) - 1)))))) 4294967295))) else (none))) else (none)) else (none))
set_option maxHeartbeats 8000000 in
set_option maxRecDepth 100000 in
theorem astrolaberef03_guess.calls (A0 : Option Addr) (c0 : Nat) (l0 : List Int) (A1 : Option Addr) (c1 : Nat) (l1 : List Int) (r : Int) (w : World) (hr0 : Kd.C (Kd.int .u32) w A0 l0.length l0) (hc0 : l0.length ≤ c0) (hr1 : Kd.C (Kd.int .u32) w A1 l1.length l1) (hc1 : l1.length ≤ c1) (h : astrolaberef03_guess.f l0 l1 = some r) :
    Calls Try.prog 33 #[.slice A0 l0.length c0, .slice A1 l1.length c1] w fun e w' => e = .returned (.int .u64 r) ∧ Below w.heap.size w w' := by
  have HR0 := A0_ hr0
  have HC0 := A0_ hc0
  clear hr0 hc0
  have HR1 := A0_ hr1
  have HC1 := A0_ hc1
  clear hr1 hc1
  have HB := A0_ (Below.refl w.heap.size w)
  have H : (if (l0.length : Int) < (l1.length : Int) then (some 0) else (if 0 ≤ (wrap64 ((l1.length : Int) - 1)) then (if (wrap64 ((l1.length : Int) - 1)) < (l0.length : Int) then (if (l0.length : Int) > (l1.length : Int) then (if 0 ≤ (l1.length : Int) then (if (l1.length : Int) < (l0.length : Int) then (if (wrap64 ((l1.length : Int) - 1)) < (l1.length : Int) then (if (IntKind.u64.wrap (rd l1 (wrap64 ((l1.length : Int) - 1)))) = 0 then (none) else (some (mn (IntKind.u64.wrap (Int.tdiv (Go.bits .or .u64 (IntKind.u64.wrap (rd l0 (wrap64 ((l1.length : Int) - 1)))) (IntKind.u64.wrap ((IntKind.u64.wrap (rd l0 (l1.length : Int))) * 4294967296))) (IntKind.u64.wrap (rd l1 (wrap64 ((l1.length : Int) - 1)))))) 4294967295))) else (none)) else (none)) else (none)) else (if (wrap64 ((l1.length : Int) - 1)) < (l1.length : Int) then (if (IntKind.u64.wrap (rd l1 (wrap64 ((l1.length : Int) - 1)))) = 0 then (none) else (some (mn (IntKind.u64.wrap (Int.tdiv (IntKind.u64.wrap (rd l0 (wrap64 ((l1.length : Int) - 1)))) (IntKind.u64.wrap (rd l1 (wrap64 ((l1.length : Int) - 1)))))) 4294967295))) else (none))) else (none)) else (none))) = some r := h
  clear h
  by_cases c3 : (l0.length : Int) < (l1.length : Int)
  · rw [if_pos c3] at H
    have c3b0 : decide ((l0.length : Int) < (l1.length : Int)) = true := decide_eq_true c3
    have c3b1 : decide (l0.length < l1.length) = true := decide_eq_true (Int.ofNat_lt.mp c3)
    clear c3
    obtain rfl := Option.some.inj H
    go_enter Try.func33, Try.ntmps33
    go_wp2
    go_ret
    exact ⟨by first | rfl | (simp [errW_none, errW_some] <;> rfl) | (simp [*, errW_none, errW_some] <;> rfl), bl_⟩
  · rw [if_neg c3] at H
    have c3b0 : decide ((l0.length : Int) < (l1.length : Int)) = false := decide_eq_false c3
    have c3b1 : decide (l0.length < l1.length) = false := decide_eq_false (fun h => c3 (Int.ofNat_lt.mpr h))
    clear c3
    obtain ⟨ji4, hji4⟩ : ∃ j_ : Int, (wrap64 ((l1.length : Int) - 1)) = j_ := ⟨_, rfl⟩
    (first | rw [hji4] at H | simp only [hji4] at H)
    have hji4w : (IntKind.i64.wrap ((l1.length : Int) - 1)) = ji4 := (i64_w _).trans hji4
    by_cases c5 : 0 ≤ (ji4)
    case neg => rw [if_neg c5] at H; exact absurd H (by simp)
    rw [if_pos c5] at H
    have c5b0 : decide (0 ≤ (ji4)) = true := decide_eq_true c5
    clear c5
    by_cases c6 : (ji4) < (l0.length : Int)
    case neg => rw [if_neg c6] at H; exact absurd H (by simp)
    rw [if_pos c6] at H
    have c6b0 : decide ((ji4) < (l0.length : Int)) = true := decide_eq_true c6
    clear c6
    by_cases c7 : (l0.length : Int) > (l1.length : Int)
    · rw [if_pos c7] at H
      have c7b0 : decide ((l1.length : Int) < (l0.length : Int)) = true := decide_eq_true c7
      have c7b1 : decide (l1.length < l0.length) = true := decide_eq_true (Int.ofNat_lt.mp c7)
      clear c7
      by_cases c8 : 0 ≤ (l1.length : Int)
      case neg => rw [if_neg c8] at H; exact absurd H (by simp)
      rw [if_pos c8] at H
      have c8b0 : decide (0 ≤ (l1.length : Int)) = true := decide_eq_true c8
      have c8b1 : decide (0 ≤ l1.length) = true := decide_eq_true (by omega)
      clear c8
      by_cases c9 : (l1.length : Int) < (l0.length : Int)
      case neg => rw [if_neg c9] at H; exact absurd H (by simp)
      rw [if_pos c9] at H
      have c9b0 : decide ((l1.length : Int) < (l0.length : Int)) = true := decide_eq_true c9
      have c9b1 : decide (l1.length < l0.length) = true := decide_eq_true (Int.ofNat_lt.mp c9)
      clear c9
      by_cases c10 : (ji4) < (l1.length : Int)
      case neg => rw [if_neg c10] at H; exact absurd H (by simp)
      rw [if_pos c10] at H
      have c10b0 : decide ((ji4) < (l1.length : Int)) = true := decide_eq_true c10
      clear c10
      by_cases c11 : (IntKind.u64.wrap (rd l1 (ji4))) = 0
      · rw [if_pos c11] at H
        exact absurd H (by simp)
      · rw [if_neg c11] at H
        have c11b0 : ((IntKind.u64.wrap (rd l1 (ji4))) == 0) = false := beq_eq_false_iff_ne.mpr c11
        have c11b1 : ((IntKind.u64.wrap (rd l1 (ji4))) != 0) = true := bne_iff_ne.mpr c11
        obtain ⟨ji12, hji12⟩ : ∃ j_ : Int, (mn (IntKind.u64.wrap (Int.tdiv (Go.bits .or .u64 (IntKind.u64.wrap (rd l0 (ji4))) (IntKind.u64.wrap ((IntKind.u64.wrap (rd l0 (l1.length : Int))) * 4294967296))) (IntKind.u64.wrap (rd l1 (ji4))))) 4294967295) = j_ := ⟨_, rfl⟩
        (first | rw [hji12] at H | simp only [hji12] at H)
        have hji12_ : (if 4294967295 < (IntKind.u64.wrap (Int.tdiv (Go.bits .or .u64 (IntKind.u64.wrap (rd l0 (ji4))) (IntKind.u64.wrap ((IntKind.u64.wrap (rd l0 (l1.length : Int))) * 4294967296))) (IntKind.u64.wrap (rd l1 (ji4))))) then 4294967295 else (IntKind.u64.wrap (Int.tdiv (Go.bits .or .u64 (IntKind.u64.wrap (rd l0 (ji4))) (IntKind.u64.wrap ((IntKind.u64.wrap (rd l0 (l1.length : Int))) * 4294967296))) (IntKind.u64.wrap (rd l1 (ji4)))))) = ji12 := hji12
        obtain rfl := Option.some.inj H
        have p453 : 0 ≤ ((ji4) : Int) := od_
        have q453 : (ji4) < (l0.length : Int) := od_
        obtain ⟨ad453, e453, hx453_0⟩ := Kd.at_int HR0.out (ji4) p453 q453
        cases e453
        replace p453 := eq_true p453
        replace q453 := eq_true q453
        have p454 : 0 ≤ ((l1.length : Int) : Int) := od_
        have q454 : (l1.length : Int) < (l0.length : Int) := od_
        obtain ⟨ad454, e454, hx454_0⟩ := Kd.at_int HR0.out (l1.length : Int) p454 q454
        obtain rfl : ad453 = ad454 := (by injection e454)
        (try simp only [Go.IntWalk.toNatUp] at hx454_0)
        replace p454 := eq_true p454
        replace q454 := eq_true q454
        have p455 : 0 ≤ ((ji4) : Int) := od_
        have q455 : (ji4) < (l1.length : Int) := od_
        obtain ⟨ad455, e455, hx455_0⟩ := Kd.at_int HR1.out (ji4) p455 q455
        cases e455
        replace p455 := eq_true p455
        replace q455 := eq_true q455
        go_enter Try.func33, Try.ntmps33
        go_wp2
        go_ret
        exact ⟨by first | rfl | (simp [errW_none, errW_some] <;> rfl) | (simp only [← hji4, ← hji12]; first | rfl | (simp [errW_none, errW_some] <;> rfl)) | (simp [*, errW_none, errW_some] <;> rfl), bl_⟩
    · rw [if_neg c7] at H
      have c7b0 : decide ((l1.length : Int) < (l0.length : Int)) = false := decide_eq_false c7
      have c7b1 : decide (l1.length < l0.length) = false := decide_eq_false (fun h => c7 (Int.ofNat_lt.mpr h))
      clear c7
      by_cases c13 : (ji4) < (l1.length : Int)
      case neg => rw [if_neg c13] at H; exact absurd H (by simp)
      rw [if_pos c13] at H
      have c13b0 : decide ((ji4) < (l1.length : Int)) = true := decide_eq_true c13
      clear c13
      by_cases c14 : (IntKind.u64.wrap (rd l1 (ji4))) = 0
      · rw [if_pos c14] at H
        exact absurd H (by simp)
      · rw [if_neg c14] at H
        have c14b0 : ((IntKind.u64.wrap (rd l1 (ji4))) == 0) = false := beq_eq_false_iff_ne.mpr c14
        have c14b1 : ((IntKind.u64.wrap (rd l1 (ji4))) != 0) = true := bne_iff_ne.mpr c14
        obtain ⟨ji15, hji15⟩ : ∃ j_ : Int, (mn (IntKind.u64.wrap (Int.tdiv (IntKind.u64.wrap (rd l0 (ji4))) (IntKind.u64.wrap (rd l1 (ji4))))) 4294967295) = j_ := ⟨_, rfl⟩
        (first | rw [hji15] at H | simp only [hji15] at H)
        have hji15_ : (if 4294967295 < (IntKind.u64.wrap (Int.tdiv (IntKind.u64.wrap (rd l0 (ji4))) (IntKind.u64.wrap (rd l1 (ji4))))) then 4294967295 else (IntKind.u64.wrap (Int.tdiv (IntKind.u64.wrap (rd l0 (ji4))) (IntKind.u64.wrap (rd l1 (ji4)))))) = ji15 := hji15
        obtain rfl := Option.some.inj H
        have p453 : 0 ≤ ((ji4) : Int) := od_
        have q453 : (ji4) < (l0.length : Int) := od_
        obtain ⟨ad453, e453, hx453_0⟩ := Kd.at_int HR0.out (ji4) p453 q453
        cases e453
        replace p453 := eq_true p453
        replace q453 := eq_true q453
        have p456 : 0 ≤ ((ji4) : Int) := od_
        have q456 : (ji4) < (l1.length : Int) := od_
        obtain ⟨ad456, e456, hx456_0⟩ := Kd.at_int HR1.out (ji4) p456 q456
        cases e456
        replace p456 := eq_true p456
        replace q456 := eq_true q456
        go_enter Try.func33, Try.ntmps33
        go_wp2
        go_ret
        exact ⟨by first | rfl | (simp [errW_none, errW_some] <;> rfl) | (simp only [← hji4, ← hji15]; first | rfl | (simp [errW_none, errW_some] <;> rfl)) | (simp [*, errW_none, errW_some] <;> rfl), bl_⟩

end Go.Proofs.Ytohkjfdcmiiehaa.P
