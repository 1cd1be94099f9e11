/- What the Go functions of these names come to, as plain Lean functions, and the walks that show it. Written for this claim by a turned copy of the print program; Lean checks it. -/
import Derived.Test.YtohkjfdcmiiehaaP0
import Derived.Test.YtohkjfdcmiiehaaP1
import Derived.Test.YtohkjfdcmiiehaaP3
namespace Go.Proofs.Ytohkjfdcmiiehaa.P
open Go.RowKit Go.Proofs.YtohkjfdcmiiehaaW.PrintWords Go.Proofs.YtohkjfdcmiiehaaW.PrintLast Go.Proofs.YtohkjfdcmiiehaaW.PrintMore
attribute [local go_sem] max2_int min2_int max_two min_two max_three min_three max_four min_four   -- for this text's walks alone
set_option linter.unusedVariables false
set_option linter.unusedSimpArgs false

/-! ### quo_short: function 27 -/
def quo_short.l0 : Nat → List Int → Int → List Int → Int → Int → Int → Option (List Int × List Int × Bool)
  | 0, _, _, _, _, _, _ => none
  | k + 1, x0, x1, x4, x7, x14, x15 => if x15 < x14 then (if 0 ≤ (wrap64 ((wrap64 ((x0.length : Int) - 1)) - x15)) then (if (wrap64 ((wrap64 ((x0.length : Int) - 1)) - x15)) < (x0.length : Int) then ((bits_Div32.f x7 (rd x0 (wrap64 ((wrap64 ((x0.length : Int) - 1)) - x15))) x1).bind fun bt131 => (if (wrap64 ((wrap64 ((x0.length : Int) - 1)) - x15)) < (x4.length : Int) then (quo_short.l0 k x0 x1 (x4.set ((wrap64 ((wrap64 ((x0.length : Int) - 1)) - x15)) : Int).toNat bt131.1) bt131.2 x14 (wrap64 (x15 + 1))) else (none))) else (none)) else (none)) else ((nat_Trim.f k x4).bind fun t134 => ((nat_From.f k (IntKind.u64.wrap (x7))).bind fun t137 => (some (t134, t137, true))))
def quo_short.f (k : Nat) (l0 : List Int) (a1 : Int) : Option (List Int × List Int × Bool) := if 0 ≤ (l0.length : Int) then (if ((l0.length : Int) : Int).toNat ≤ 70368744177664 then (quo_short.l0 k l0 a1 (List.replicate ((l0.length : Int) : Int).toNat 0) 0 (l0.length : Int) 0) else (none)) else (none)
theorem quo_short.mono_l : ∀ k, (∀ y0 y1 y2 y3 y4 y5, LeO (quo_short.l0 k y0 y1 y2 y3 y4 y5) (quo_short.l0 (k + 1) y0 y1 y2 y3 y4 y5))
  | 0 => fun _ _ _ _ _ _ r h => by simp [quo_short.l0] at h
  | k + 1 => by
    have ih0 := quo_short.mono_l k
    · intro y0 y1 y2 y3 y4 y5
      unfold quo_short.l0
      repeat' first
      | (with_reducible exact ih0 _ _ _ _ _ _)
      | (with_reducible exact nat_From.mono _ _)
      | (with_reducible exact nat_Trim.mono _ _)
      | (with_reducible exact LeO.refl _)
      | (with_reducible exact LeO.none _)
      | (with_reducible refine LeO.ite ?_ ?_)
      | (with_reducible refine LeO.bind ?_ (fun _ => ?_))
      | exact ih0 _ _ _ _ _ _
      | exact nat_From.mono _ _
      | exact nat_Trim.mono _ _
      | exact LeO.none _
      | refine LeO.ite ?_ ?_
      | refine LeO.bind ?_ (fun _ => ?_)
theorem quo_short.mono : ∀ a0 a1 k, LeO (quo_short.f k a0 a1) (quo_short.f (k + 1) a0 a1) := by
  intro a0 a1 k
  have ih0 := quo_short.mono_l k
  unfold quo_short.f
  repeat' first
      | (with_reducible exact ih0 _ _ _ _ _ _)
      | (with_reducible exact nat_From.mono _ _)
      | (with_reducible exact nat_Trim.mono _ _)
      | (with_reducible exact LeO.refl _)
      | (with_reducible exact LeO.none _)
      | (with_reducible refine LeO.ite ?_ ?_)
      | (with_reducible refine LeO.bind ?_ (fun _ => ?_))
      | exact ih0 _ _ _ _ _ _
      | exact nat_From.mono _ _
      | exact nat_Trim.mono _ _
      | exact LeO.none _
      | refine LeO.ite ?_ ?_
      | refine LeO.bind ?_ (fun _ => ?_)
set_option maxHeartbeats 8000000 in
set_option maxRecDepth 100000 in
theorem quo_short.calls (k : Nat) (A0 : Option Addr) (c0 : Nat) (l0 : List Int) (a1 : Int) (r1 : List Int) (r2 : List Int) (r3 : Bool) (w : World) (hr0 : Kd.C (Kd.int .u32) w A0 l0.length l0) (hc0 : l0.length ≤ c0) (h : quo_short.f k l0 a1 = some (r1, r2, r3)) :
    Calls Try.prog 27 #[.slice A0 l0.length c0, .int .u32 a1] w fun e w' => ∃ v0_ v1_ : Value, e = .returned (.tuple #[v0_, v1_, .bool r3]) ∧ Kd.R (Kd.int .u32) 37 w' w.heap.size (fun k_ => (w.heap.size ≤ k_)) v0_ r1 ∧ Kd.V (Kd.int .u32) 37 w' w.heap.size (fun k_ => (w.heap.size ≤ k_) ∧ some k_ ≠ (v0_ : Value).ownBlock) v1_ r2 ∧ Below w.heap.size w w' := by
  have HR0 := A0_ hr0
  have HC0 := A0_ hc0
  clear hr0 hc0
  have HB := A0_ (Below.refl w.heap.size w)
  have H : (if 0 ≤ (l0.length : Int) then (if ((l0.length : Int) : Int).toNat ≤ 70368744177664 then (quo_short.l0 k l0 a1 (List.replicate ((l0.length : Int) : Int).toNat 0) 0 (l0.length : Int) 0) else (none)) else (none)) = some (r1, r2, r3) := h
  clear h
  by_cases c3 : 0 ≤ (l0.length : Int)
  case neg => rw [if_neg c3] at H; exact absurd H (by simp)
  rw [if_pos c3] at H
  have c3b0 := eq_true c3
  have c3b1 : decide (0 ≤ (l0.length : Int)) = true := decide_eq_true c3
  clear c3
  by_cases c4 : ((l0.length : Int) : Int).toNat ≤ 70368744177664
  case neg => rw [if_neg c4] at H; exact absurd H (by simp)
  rw [if_pos c4] at H
  have c4b0 := eq_true c4
  have c4b1 : decide (((l0.length : Int) : Int).toNat ≤ 70368744177664) = true := decide_eq_true c4
  clear c4
  obtain ⟨y127, hy127⟩ : ∃ y_ : List Int, y_ = (List.replicate ((l0.length : Int) : Int).toNat 0) := ⟨_, rfl⟩
  replace H : (quo_short.l0 k l0 a1 y127 0 (l0.length : Int) 0) = some (r1, r2, r3) := by first | (rw [hy127]; with_reducible exact H) | (rw [hy127]; exact H) | exact H
  have Ny127 := A0_ hy127
  clear hy127
  have H' := A0_ H
  clear H
  go_enter Try.func27, Try.ntmps27
  go_wp2_with (first | ((with_reducible refine gate_dst (N := 12) rfl ?_); refine Kd.R_make (Kd.int .u32) _ 37 rfl (N := 12) rfl 22 _ _ rfl (l0.length : Int) rfl rfl Try.underlying22 (.int .u32 0) 4 info37 rfl (by decide) (by omega) 0 (ok := fun _ => True) (okp := fun _ => True) rfl (fun _ hk => hk) trivial od_ (Nat.le_trans (Nat.mul_le_mul_right _ (od_ : (l0.length : Int).toNat ≤ 70368744177664)) (by omega)) (Below.refl _ _) (Nat.le_refl _) ?_; intro v128 w5 ho6 hb hg_ hnew_; clear hg_ hnew_; (first | rw [← Ny127.out] at ho6 | (simp only [Int.reduceToNat] at ho6; rw [← Ny127.out] at ho6)); have n0_ := A0_ (Kd.R_lower (Kd.R_newM (M := fun k_ => (w.heap.size ≤ k_)) ho6 (below_size bl_) (fun k_ h_ => h_)) (below_size bl_)); have n1_ := A0_ (below_step bl_ hb); clear HB; have HO129 := n0_; have HB := n1_; clear n0_ n1_; clear hb ho6))
  go_loopg [7, 15] k (fun kq v7 v15 w' => ∃ (x4_1 : List Int) (x7_1 : Int) (x15_1 : Int), v7 = .int .u32 x7_1 ∧ v15 = .int .i64 x15_1 ∧ Aside0 (quo_short.l0 kq l0 a1 x4_1 x7_1 (l0.length : Int) x15_1 = some (r1, r2, r3)) ∧ Aside0 (kq ≤ k) ∧ Aside0 (Kd.R (Kd.int .u32) 37 w' w.heap.size (fun k_ => (w.heap.size ≤ k_)) v128 x4_1) ∧ Aside0 (Below w.heap.size w w'))
  case atStart => exact ⟨(y127), (0), (0), rs_, rs_, H', ⟨Nat.le_refl _⟩, ⟨mvR (Kd.R_mono HO129.out (fun _ hk => hk.1))⟩, ⟨bl_⟩⟩
  case round =>
    clear H'
    (try clear c2); (try clear p2); (try clear c3); (try clear c3b0); (try clear c3b1); (try clear c4); (try clear c4b0); (try clear c4b1)
    obtain ⟨x4_1, x7_1, x15_1, rfl, rfl, HA, HK1, HO_4, HB⟩ := hrel
    cases gk with
    | zero => exact absurd HA.out (by simp [quo_short.l0])
    | succ k1 =>
      have H := HA.out
      clear HA
      simp only [quo_short.l0] at H
      by_cases c7 : x15_1 < (l0.length : Int)
      · rw [if_pos c7] at H
        have c7b0 : decide (x15_1 < (l0.length : Int)) = true := decide_eq_true c7
        clear c7
        obtain ⟨ji8, hji8⟩ : ∃ j_ : Int, (wrap64 ((wrap64 ((l0.length : Int) - 1)) - x15_1)) = j_ := ⟨_, rfl⟩
        (first | rw [hji8] at H | simp only [hji8] at H)
        have hji8w : (IntKind.i64.wrap ((wrap64 ((l0.length : Int) - 1)) - x15_1)) = ji8 := (i64_w _).trans hji8
        by_cases c9 : 0 ≤ (ji8)
        case neg => rw [if_neg c9] at H; exact absurd H (by simp)
        rw [if_pos c9] at H
        have c9b0 : decide (0 ≤ (ji8)) = true := decide_eq_true c9
        clear c9
        by_cases c10 : (ji8) < (l0.length : Int)
        case neg => rw [if_neg c10] at H; exact absurd H (by simp)
        rw [if_pos c10] at H
        have c10b0 : decide ((ji8) < (l0.length : Int)) = true := decide_eq_true c10
        clear c10
        replace H := Option.bind_eq_some_iff.mp H
        obtain ⟨⟨t131, t132⟩, A110, H⟩ := H
        (try dsimp only at H)
        have A11 := A0_ A110
        clear A110
        by_cases c12 : (ji8) < (x4_1.length : Int)
        case neg => rw [if_neg c12] at H; exact absurd H (by simp)
        rw [if_pos c12] at H
        have c12b0 : decide ((ji8) < (x4_1.length : Int)) = true := decide_eq_true c12
        clear c12
        obtain ⟨y133, hy133⟩ : ∃ y_ : List Int, y_ = (x4_1.set ((ji8) : Int).toNat t131) := ⟨_, rfl⟩
        replace H : (quo_short.l0 k1 l0 a1 y133 t132 (l0.length : Int) (wrap64 (x15_1 + 1))) = some (r1, r2, r3) := by first | (rw [hy133]; with_reducible exact H) | (rw [hy133]; exact H) | exact H
        have Ny133 := A0_ hy133
        clear hy133
        have H' := A0_ H
        clear H
        have p130 : 0 ≤ ((ji8) : Int) := od_
        have q130 : (ji8) < (l0.length : Int) := od_
        obtain ⟨ad130, e130, hx130_0⟩ := Kd.at_int HR0.out (ji8) p130 q130
        cases e130
        replace hx130_0 := (HB.out.cell (World.block_lt_of_cell? w _ hx130_0)).trans hx130_0
        replace p130 := eq_true p130
        replace q130 := eq_true q130
        go_wp2_with (first | ((with_reducible refine gate_callee (f := 45) rfl ?_); refine goesM_ (some 32) Try.func45 #[.int .u32 x7_1, .int .u32 (rd l0 (ji8)), .int .u32 a1] rfl ?_ (by (try simp only [List.map_toArray, List.map_cons, List.map_nil]); first | done | (simp only [hji8]; rfl) | rfl | (simp only [List.length_drop, List.length_take]; rfl)); (with_reducible refine (bits_Div32.calls x7_1 (rd l0 (ji8)) a1 t131 t132 _ A11.out).mono ?_); rintro e w' ⟨rfl, ⟨nd, rfl⟩⟩; refine ⟨_, rfl, ?_⟩; (try (rw [drewN_self wr]; generalize hq_ : World.drewN wr _ = wr; have n0_ : Aside0 (Kd.R (Kd.int .u32) 37 wr w.heap.size (fun k_ => (w.heap.size ≤ k_)) v128 x4_1) := ⟨by rw [← hq_]; exact (mvR HO_4.out)⟩; have n1_ : Aside0 (Below w.heap.size w wr) := ⟨by rw [← hq_]; exact bl_⟩; clear HO_4 HB hq_; have HO_4 := n0_; have HB := n1_; clear n0_ n1_)); have p13 : 0 ≤ ((ji8) : Int) := od_; have q13 : ((ji8) : Int) < ((x4_1.length : Int) : Int) := od_; obtain ⟨go13, co13, eo13, gb13, gl13, cl13, HG13⟩ := Kd.R_form HO_4.out (by omega); (first | cases eo13 | (injection eo13 with ea_ en_ ec_; (first | subst ea_ | (injection ea_ with ea_; subst ea_)); subst ec_; clear en_)); have GB13 := A0_ gb13; have GG13 := A0_ HG13; clear gb13 gl13 HG13; obtain ⟨hx13_0, hf13_0⟩ := Kd.R_celln 0 HO_4.out ((ji8) : Int) p13 q13; replace p13 := eq_true p13; replace q13 := eq_true q13; obtain ⟨hy14_, hz14_⟩ := Kd.R_celln 0 HO_4.out ((ji8) : Int) od_ od_; have HP14 := Kd.R_putg HO_4.out ((ji8) : Int) t131) | ((with_reducible refine gate_store (t := 37) (p := 35) rfl ?_); refine store_event (t := 37) (p := 35) (v := ?vo_w15) (w1 := (wr.setCell ⟨go13, ((ji8) : Int).toNat, none⟩ (.int .u32 t131))) ?hg ?ho ?hn ?hr ?_; (case ho => rfl); (case hg => rfl); (case hn => rfl); (case hr => first | (go_simp; done) | (go_simp; rfl)); intro w15 hw; have hg : wr.grownBy w15 (some go13) := (by rw [hw]; exact HP14.2); have hp_ : Kd.R (Kd.int .u32) 37 w15 w.heap.size (fun k_ => (w.heap.size ≤ k_)) (.slice (some ⟨go13, 0, none⟩) x4_1.length co13) y133 := (by rw [hw, Ny133.out]; exact HP14.1); clear HP14; have n0_ := A0_ (hp_); have n1_ := A0_ ((by rw [hw]; exact below_set (HB.out) GB13.out : Below w.heap.size w w15)); clear HO_4; clear HB; have HO_4 := n0_; have HB := n1_; clear n0_ n1_; clear hg hw hp_))
        go_roundg k1
        case measure => have := HK1.out; omega
        case rel => exact ⟨(y133), (t132), (wrap64 (x15_1 + 1)), rs_, rs_, H', ⟨by have := HK1.out; omega⟩, ⟨mvR HO_4.out⟩, ⟨bl_⟩⟩
      · rw [if_neg c7] at H
        have c7b0 : decide (x15_1 < (l0.length : Int)) = false := decide_eq_false c7
        clear c7
        replace H := Option.bind_eq_some_iff.mp H
        obtain ⟨t134, A160, H⟩ := H
        (try dsimp only at H)
        have A16 := A0_ A160
        clear A160
        replace H := Option.bind_eq_some_iff.mp H
        obtain ⟨t137, A170, H⟩ := H
        (try dsimp only at H)
        have A17 := A0_ A170
        clear A170
        simp only [Option.some.injEq, Prod.mk.injEq] at H
        obtain ⟨rfl, rfl, rfl⟩ := H
        obtain ⟨Ao18, co18, eo18⟩ := Kd.R_slice HO_4.out
        subst eo18
        go_wp2_with (first | ((with_reducible refine gate_callee (f := 22) rfl ?_); refine goesM_ (some 38) Try.func22 #[.slice Ao18 x4_1.length co18] rfl ?_; (with_reducible refine (nat_Trim.calls k1 _ _ x4_1 t134 _ ?side1 ?side2 A16.out).mono ?_); (case side1 => exact mvC (Kd.R_reads' HO_4.out).2.2); (case side2 => exact (Kd.R_reads' HO_4.out).2.1); rintro e w19 ⟨v135, rfl, ho0, hb⟩; refine ⟨_, rfl, ?_⟩; have n0_ := A0_ (Kd.R_elder' (mvR HO_4.out) (Kd.R_base ho0) hb); have n1_ := A0_ (Kd.R_lower (Kd.R_new' (Kd.R_newM (M := fun k_ => (w.heap.size ≤ k_)) ho0 (below_size bl_) (fun k_ h_ => h_)) (Kd.R_lt (mvR HO_4.out))) (below_size bl_)); have n2_ := A0_ (below_step bl_ hb); clear HO_4; clear HB; have HO_4 := n0_; have HO136 := n1_; have HB := n2_; clear n0_ n1_ n2_; (try clear hb); (try clear hb2); (try clear hk); (try clear hi); (try clear ho0)) | ((with_reducible refine gate_callee (f := 38) rfl ?_); refine goesM_ (some 41) Try.func38 #[.int .u64 (IntKind.u64.wrap (x7_1))] rfl ?_; (with_reducible refine (nat_From.calls k1 (IntKind.u64.wrap (x7_1)) t137 _ A17.out).mono ?_); rintro e w20 ⟨v138, rfl, ho0, hb⟩; refine ⟨_, rfl, ?_⟩; have n0_ := A0_ (Kd.R_below (mvR HO_4.out) hb); have n1_ := A0_ (Kd.R_below (mvR HO136.out) hb); have n2_ := A0_ (Kd.V_lower (Kd.V_mono (ok' := fun k_ => (w.heap.size ≤ k_) ∧ some k_ ≠ (.slice Ao18 x4_1.length co18 : Value).ownBlock ∧ some k_ ≠ (v135 : Value).ownBlock) ho0 (fun k_ hk_ => ⟨(Nat.le_trans (below_size bl_) hk_), (Kd.fresh' (Kd.R_lt (mvR HO_4.out)) k_ hk_), (Kd.fresh' (Kd.R_lt (mvR HO136.out)) k_ hk_)⟩)) (below_size bl_)); have n3_ := A0_ (below_step bl_ hb); clear HO_4; clear HO136; clear HB; have HO_4 := n0_; have HO136 := n1_; have HO139 := n2_; have HB := n3_; clear n0_ n1_ n2_ n3_; (try clear hb); (try clear hb2); (try clear hk); (try clear hi); (try clear ho0)))
        go_ret3
        exact ⟨_, _, by first | rfl | (simp [errW_none, errW_some] <;> rfl) | (simp [*, errW_none, errW_some] <;> rfl), mvR (Kd.R_mono HO136.out (fun _ hk => hk.1.1)), mvV (Kd.V_mono HO139.out (fun _ hk => ⟨hk.1, hk.2.2⟩)), bl_⟩

/-! ### quo_take: function 47 -/
def quo_take.l0 : Nat → List Int → List Int → Int → Int → Int → List Int → Int → Int → Option (Bool × List Int)
  | 0, _, _, _, _, _, _, _, _ => none
  | k + 1, x0, x1, x2, x7, x8, x12, x13, x14 => if x14 < x13 then (if 0 ≤ x14 then (if x14 < (x12.length : Int) then (if x14 < (x0.length : Int) then ((bits_Sub32.f (rd x0 x14) ((IntKind.u64.wrap ((IntKind.u64.wrap ((IntKind.u64.wrap (rd x12 x14)) * x2)) + x7)) % 4294967296) x8).bind fun bt177 => (quo_take.l0 k (x0.set (x14 : Int).toNat bt177.1) x1 x2 ((IntKind.u64.wrap ((IntKind.u64.wrap ((IntKind.u64.wrap (rd x12 x14)) * x2)) + x7)) / 4294967296) bt177.2 x12 x13 (wrap64 (x14 + 1)))) else (none)) else (none)) else (none)) else (if 0 ≤ (x1.length : Int) then (if (x1.length : Int) < (x0.length : Int) then ((bits_Sub32.f (rd x0 (x1.length : Int)) ((x7) % 4294967296) x8).bind fun bt181 => (some (decide (bt181.2 > 0), (x0.set ((x1.length : Int) : Int).toNat bt181.1)))) else (none)) else (none))
def quo_take.f (k : Nat) (l0 : List Int) (l1 : List Int) (a2 : Int) : Option (Bool × List Int) := quo_take.l0 k l0 l1 a2 0 0 l1 (l1.length : Int) 0
theorem quo_take.mono_l : ∀ k, (∀ y0 y1 y2 y3 y4 y5 y6 y7, LeO (quo_take.l0 k y0 y1 y2 y3 y4 y5 y6 y7) (quo_take.l0 (k + 1) y0 y1 y2 y3 y4 y5 y6 y7))
  | 0 => fun _ _ _ _ _ _ _ _ r h => by simp [quo_take.l0] at h
  | k + 1 => by
    have ih0 := quo_take.mono_l k
    · intro y0 y1 y2 y3 y4 y5 y6 y7
      unfold quo_take.l0
      repeat' first
      | (with_reducible exact ih0 _ _ _ _ _ _ _ _)
      | (with_reducible exact LeO.refl _)
      | (with_reducible exact LeO.none _)
      | (with_reducible refine LeO.ite ?_ ?_)
      | (with_reducible refine LeO.bind ?_ (fun _ => ?_))
      | exact ih0 _ _ _ _ _ _ _ _
      | exact LeO.none _
      | refine LeO.ite ?_ ?_
      | refine LeO.bind ?_ (fun _ => ?_)
theorem quo_take.mono : ∀ a0 a1 a2 k, LeO (quo_take.f k a0 a1 a2) (quo_take.f (k + 1) a0 a1 a2) := by
  intro a0 a1 a2 k
  have ih0 := quo_take.mono_l k
  unfold quo_take.f
  repeat' first
      | (with_reducible exact ih0 _ _ _ _ _ _ _ _)
      | (with_reducible exact LeO.refl _)
      | (with_reducible exact LeO.none _)
      | (with_reducible refine LeO.ite ?_ ?_)
      | (with_reducible refine LeO.bind ?_ (fun _ => ?_))
      | exact ih0 _ _ _ _ _ _ _ _
      | exact LeO.none _
      | refine LeO.ite ?_ ?_
      | refine LeO.bind ?_ (fun _ => ?_)
set_option maxHeartbeats 8000000 in
set_option maxRecDepth 100000 in
theorem quo_take.calls (k : Nat) (P0_ : Nat → Prop) (u9000_ : Value) (l0 : List Int) (A1 : Option Addr) (c1 : Nat) (l1 : List Int) (a2 : Int) (r1 : Bool) (r2 : List Int) (w0 w : World) (hB : Below w0.heap.size w0 w) (ho0 : Kd.R (Kd.int .u32) 37 w w0.heap.size P0_ u9000_ l0) (hr1 : ∀ W_, Kept w W_ (fun k_ => P0_ k_) → Kd.C (Kd.int .u32) W_ A1 l1.length l1) (hc1 : l1.length ≤ c1) (h : quo_take.f k l0 l1 a2 = some (r1, r2)) :
    Calls Try.prog 47 #[u9000_, .slice A1 l1.length c1, .int .u64 a2] w fun e w' => e = .returned (.bool r1) ∧ Kd.R (Kd.int .u32) 37 w' w0.heap.size (fun k_ => (P0_ k_ ∨ w.heap.size ≤ k_)) u9000_ r2 ∧ Below w0.heap.size w0 w' ∧ Kept w w' (fun k_ => P0_ k_) := by
  have HO0 := A0_ (show Kd.R (Kd.int .u32) 37 w w0.heap.size (fun k_ => (P0_ k_ ∨ w.heap.size ≤ k_)) u9000_ l0 from Kd.R_mono ho0 (fun k_ hk => (.inl hk)))
  have HR1 := A0_ hr1
  have HC1 := A0_ hc1
  clear hr1 hc1
  have HK := A0_ (Kept.refl w (fun k_ => P0_ k_))
  have HW0 := A0_ hB.size
  have HB := A0_ hB
  clear hB
  have H : (quo_take.l0 k l0 l1 a2 0 0 l1 (l1.length : Int) 0) = some (r1, r2) := h
  clear h
  have H' := A0_ H
  clear H
  go_enter Try.func47, Try.ntmps47
  go_wp2
  go_loopg [7, 8, 14] k (fun kq v7 v8 v14 w' => ∃ (x0_1 : List Int) (x7_1 : Int) (x8_1 : Int) (x14_1 : Int), v7 = .int .u64 x7_1 ∧ v8 = .int .u32 x8_1 ∧ v14 = .int .i64 x14_1 ∧ Aside0 (quo_take.l0 kq x0_1 l1 a2 x7_1 x8_1 l1 (l1.length : Int) x14_1 = some (r1, r2)) ∧ Aside0 (kq ≤ k) ∧ Aside0 (Kd.R (Kd.int .u32) 37 w' w0.heap.size (fun k_ => (P0_ k_ ∨ w.heap.size ≤ k_)) u9000_ x0_1) ∧ Aside0 (Kept w w' (fun k_ => P0_ k_)) ∧ Aside0 (Below w0.heap.size w0 w'))
  case atStart => exact ⟨(l0), (0), (0), (0), rs_, rs_, rs_, H', ⟨Nat.le_refl _⟩, ⟨mvR HO0.out⟩, ⟨kl_⟩, ⟨bl_⟩⟩
  case round =>
    clear H'
    (try clear c1); (try clear p2)
    obtain ⟨x0_1, x7_1, x8_1, x14_1, rfl, rfl, rfl, HA, HK1, HO_0, HK, HB⟩ := hrel
    cases gk with
    | zero => exact absurd HA.out (by simp [quo_take.l0])
    | succ k1 =>
      have H := HA.out
      clear HA
      simp only [quo_take.l0] at H
      by_cases c4 : x14_1 < (l1.length : Int)
      · rw [if_pos c4] at H
        have c4b0 : decide (x14_1 < (l1.length : Int)) = true := decide_eq_true c4
        clear c4
        by_cases c5 : 0 ≤ x14_1
        case neg => rw [if_neg c5] at H; exact absurd H (by simp)
        rw [if_pos c5] at H
        have c5b0 : decide (0 ≤ x14_1) = true := decide_eq_true c5
        clear c5
        by_cases c6 : x14_1 < (l1.length : Int)
        case neg => rw [if_neg c6] at H; exact absurd H (by simp)
        rw [if_pos c6] at H
        have c6b0 : decide (x14_1 < (l1.length : Int)) = true := decide_eq_true c6
        clear c6
        by_cases c7 : x14_1 < (x0_1.length : Int)
        case neg => rw [if_neg c7] at H; exact absurd H (by simp)
        rw [if_pos c7] at H
        have c7b0 : decide (x14_1 < (x0_1.length : Int)) = true := decide_eq_true c7
        clear c7
        replace H := Option.bind_eq_some_iff.mp H
        obtain ⟨⟨t177, t178⟩, A80, H⟩ := H
        (try dsimp only at H)
        have A8 := A0_ A80
        clear A80
        obtain ⟨y179, hy179⟩ : ∃ y_ : List Int, y_ = (x0_1.set (x14_1 : Int).toNat t177) := ⟨_, rfl⟩
        replace H : (quo_take.l0 k1 y179 l1 a2 ((IntKind.u64.wrap ((IntKind.u64.wrap ((IntKind.u64.wrap (rd l1 x14_1)) * a2)) + x7_1)) / 4294967296) t178 l1 (l1.length : Int) (wrap64 (x14_1 + 1))) = some (r1, r2) := by first | (rw [hy179]; with_reducible exact H) | (rw [hy179]; exact H) | exact H
        have Ny179 := A0_ hy179
        clear hy179
        have H' := A0_ H
        clear H
        have p175 : 0 ≤ (x14_1 : Int) := od_
        have q175 : x14_1 < (l1.length : Int) := od_
        obtain ⟨ad175, e175, hx175_0⟩ := Kd.at_int (Kd.C_kept_now HR1.out HK.out) x14_1 p175 q175
        cases e175
        replace p175 := eq_true p175
        replace q175 := eq_true q175
        obtain ⟨Ao10, co10, eo10⟩ := Kd.R_slice HO_0.out
        subst eo10
        have p176 : 0 ≤ (x14_1 : Int) := od_
        have q176 : x14_1 < (x0_1.length : Int) := od_
        obtain ⟨ad176, e176, hx176_0⟩ := Kd.at_int (Kd.R_reads' HO_0.out).2.2 x14_1 p176 q176
        cases e176
        replace p176 := eq_true p176
        replace q176 := eq_true q176
        go_wp2_with (first | ((with_reducible refine gate_callee (f := 44) rfl ?_); refine goesM_ (some 37) Try.func44 #[.int .u32 (rd x0_1 x14_1), .int .u32 ((IntKind.u64.wrap ((IntKind.u64.wrap ((IntKind.u64.wrap (rd l1 x14_1)) * a2)) + x7_1)) % 4294967296), .int .u32 x8_1] rfl ?_; (with_reducible refine (bits_Sub32.calls (rd x0_1 x14_1) ((IntKind.u64.wrap ((IntKind.u64.wrap ((IntKind.u64.wrap (rd l1 x14_1)) * a2)) + x7_1)) % 4294967296) x8_1 t177 t178 _ A8.out).mono ?_); rintro e w' ⟨rfl, ⟨nd, rfl⟩⟩; refine ⟨_, rfl, ?_⟩; (try (rw [drewN_self wr]; generalize hq_ : World.drewN wr _ = wr; have n0_ : Aside0 (Kd.R (Kd.int .u32) 37 wr w0.heap.size (fun k_ => (P0_ k_ ∨ w.heap.size ≤ k_)) (.slice (some ad176) x0_1.length co10) x0_1) := ⟨by rw [← hq_]; exact (mvR HO_0.out)⟩; have n1_ : Aside0 (Kept w wr (fun k_ => P0_ k_)) := ⟨by rw [← hq_]; exact kl_⟩; have n2_ : Aside0 (Below w0.heap.size w0 wr) := ⟨by rw [← hq_]; exact bl_⟩; clear HO_0 HK HB hq_; have HO_0 := n0_; have HK := n1_; have HB := n2_; clear n0_ n1_ n2_)); have p9 : 0 ≤ (x14_1 : Int) := od_; have q9 : (x14_1 : Int) < ((x0_1.length : Int) : Int) := od_; obtain ⟨go9, co9, eo9, gb9, gl9, cl9, HG9⟩ := Kd.R_form HO_0.out (by omega); (first | cases eo9 | (injection eo9 with ea_ en_ ec_; (first | subst ea_ | (injection ea_ with ea_; subst ea_)); subst ec_; clear en_)); have GB9 := A0_ gb9; have GG9 := A0_ HG9; clear gb9 gl9 HG9; have HMgo9 := A0_ (show (P0_ go9 ∨ w.heap.size ≤ go9) from (HO_0.out.1 _ rfl)); (first | simp only [add_plain] at hx176_0 | skip); obtain ⟨hx9_0, hf9_0⟩ := Kd.R_celln 0 HO_0.out (x14_1 : Int) p9 q9; replace p9 := eq_true p9; replace q9 := eq_true q9; obtain ⟨hy11_, hz11_⟩ := Kd.R_celln 0 HO_0.out (x14_1 : Int) od_ od_; have HP11 := Kd.R_putg HO_0.out (x14_1 : Int) t177) | ((with_reducible refine gate_store (t := 37) (p := 40) rfl ?_); refine store_event (t := 37) (p := 40) (v := ?vo_w12) (w1 := (wr.setCell ⟨go9, (x14_1 : Int).toNat, none⟩ (.int .u32 t177))) ?hg ?ho ?hn ?hr ?_; (case ho => rfl); (case hg => rfl); (case hn => rfl); (case hr => first | (go_simp; done) | (go_simp; rfl)); intro w12 hw; have hg : wr.grownBy w12 (some go9) := (by rw [hw]; exact HP11.2); have hp_ : Kd.R (Kd.int .u32) 37 w12 w0.heap.size (fun k_ => (P0_ k_ ∨ w.heap.size ≤ k_)) (.slice (some ⟨go9, 0, none⟩) x0_1.length co10) y179 := (by rw [hw, Ny179.out]; exact HP11.1); clear HP11; have n0_ := A0_ (hp_); have n1_ := A0_ ((by rw [hw]; exact below_set (HB.out) GB9.out : Below w0.heap.size w0 w12)); have n2_ := A0_ (Kept.of_grown (S := (fun k_ => P0_ k_)) hg kl_ (fun k_ e_ => (HO_0.out.1 k_ e_))); clear HO_0; clear HB; clear HK; have HO_0 := n0_; have HB := n1_; have HK := n2_; clear n0_ n1_ n2_; clear hg hw hp_))
        go_roundg k1
        case measure => have := HK1.out; omega
        case rel => exact ⟨(y179), ((IntKind.u64.wrap ((IntKind.u64.wrap ((IntKind.u64.wrap (rd l1 x14_1)) * a2)) + x7_1)) / 4294967296), (t178), (wrap64 (x14_1 + 1)), rs_, rs_, rs_, H', ⟨by have := HK1.out; omega⟩, ⟨mvR HO_0.out⟩, ⟨kl_⟩, ⟨bl_⟩⟩
      · rw [if_neg c4] at H
        have c4b0 : decide (x14_1 < (l1.length : Int)) = false := decide_eq_false c4
        clear c4
        by_cases c13 : 0 ≤ (l1.length : Int)
        case neg => rw [if_neg c13] at H; exact absurd H (by simp)
        rw [if_pos c13] at H
        have c13b0 : decide (0 ≤ (l1.length : Int)) = true := decide_eq_true c13
        have c13b1 : decide (0 ≤ l1.length) = true := decide_eq_true (by omega)
        clear c13
        by_cases c14 : (l1.length : Int) < (x0_1.length : Int)
        case neg => rw [if_neg c14] at H; exact absurd H (by simp)
        rw [if_pos c14] at H
        have c14b0 : decide ((l1.length : Int) < (x0_1.length : Int)) = true := decide_eq_true c14
        have c14b1 : decide (l1.length < x0_1.length) = true := decide_eq_true (Int.ofNat_lt.mp c14)
        clear c14
        replace H := Option.bind_eq_some_iff.mp H
        obtain ⟨⟨t181, t182⟩, A150, H⟩ := H
        (try dsimp only at H)
        have A15 := A0_ A150
        clear A150
        obtain ⟨y183, hy183⟩ : ∃ y_ : List Int, y_ = (x0_1.set ((l1.length : Int) : Int).toNat t181) := ⟨_, rfl⟩
        replace H : (some (decide (t182 > 0), y183)) = some (r1, r2) := by first | (rw [hy183]; with_reducible exact H) | (rw [hy183]; exact H) | exact H
        have Ny183 := A0_ hy183
        clear hy183
        simp only [Option.some.injEq, Prod.mk.injEq] at H
        obtain ⟨rfl, rfl⟩ := H
        obtain ⟨Ao17, co17, eo17⟩ := Kd.R_slice HO_0.out
        subst eo17
        have p180 : 0 ≤ ((l1.length : Int) : Int) := od_
        have q180 : (l1.length : Int) < (x0_1.length : Int) := od_
        obtain ⟨ad180, e180, hx180_0⟩ := Kd.at_int (Kd.R_reads' HO_0.out).2.2 (l1.length : Int) p180 q180
        cases e180
        (try simp only [Go.IntWalk.toNatUp] at hx180_0)
        replace p180 := eq_true p180
        replace q180 := eq_true q180
        go_wp2_with (first | ((with_reducible refine gate_callee (f := 44) rfl ?_); refine goesM_ (some 54) Try.func44 #[.int .u32 (rd x0_1 (l1.length : Int)), .int .u32 ((x7_1) % 4294967296), .int .u32 x8_1] rfl ?_; (with_reducible refine (bits_Sub32.calls (rd x0_1 (l1.length : Int)) ((x7_1) % 4294967296) x8_1 t181 t182 _ A15.out).mono ?_); rintro e w' ⟨rfl, ⟨nd, rfl⟩⟩; refine ⟨_, rfl, ?_⟩; (try (rw [drewN_self wr]; generalize hq_ : World.drewN wr _ = wr; have n0_ : Aside0 (Kd.R (Kd.int .u32) 37 wr w0.heap.size (fun k_ => (P0_ k_ ∨ w.heap.size ≤ k_)) (.slice (some ad180) x0_1.length co17) x0_1) := ⟨by rw [← hq_]; exact (mvR HO_0.out)⟩; have n1_ : Aside0 (Kept w wr (fun k_ => P0_ k_)) := ⟨by rw [← hq_]; exact kl_⟩; have n2_ : Aside0 (Below w0.heap.size w0 wr) := ⟨by rw [← hq_]; exact bl_⟩; clear HO_0 HK HB hq_; have HO_0 := n0_; have HK := n1_; have HB := n2_; clear n0_ n1_ n2_)); have p16 : 0 ≤ ((l1.length : Int) : Int) := od_; have q16 : ((l1.length : Int) : Int) < ((x0_1.length : Int) : Int) := od_; obtain ⟨go16, co16, eo16, gb16, gl16, cl16, HG16⟩ := Kd.R_form HO_0.out (by omega); (first | cases eo16 | (injection eo16 with ea_ en_ ec_; (first | subst ea_ | (injection ea_ with ea_; subst ea_)); subst ec_; clear en_)); have GB16 := A0_ gb16; have GG16 := A0_ HG16; clear gb16 gl16 HG16; have HMgo16 := A0_ (show (P0_ go16 ∨ w.heap.size ≤ go16) from (HO_0.out.1 _ rfl)); (first | simp only [add_plain] at hx180_0 | skip); obtain ⟨hx16_0, hf16_0⟩ := Kd.R_celln 0 HO_0.out ((l1.length : Int) : Int) p16 q16; (try simp only [Go.IntWalk.toNatUp] at hx16_0 hf16_0); replace p16 := eq_true p16; replace q16 := eq_true q16; obtain ⟨hy18_, hz18_⟩ := Kd.R_celln 0 HO_0.out ((l1.length : Int) : Int) od_ od_; (try simp only [Go.IntWalk.toNatUp] at hy18_ hz18_); have HP18 := Kd.R_putg HO_0.out ((l1.length : Int) : Int) t181) | ((with_reducible refine gate_store (t := 37) (p := 57) rfl ?_); refine store_event (t := 37) (p := 57) (v := ?vo_w19) (w1 := (wr.setCell ⟨go16, ((l1.length : Int) : Int).toNat, none⟩ (.int .u32 t181))) ?hg ?ho ?hn ?hr ?_; (case ho => rfl); (case hg => rfl); (case hn => rfl); (case hr => first | (go_simp; done) | (go_simp; rfl)); intro w19 hw; have hg : wr.grownBy w19 (some go16) := (by rw [hw]; exact HP18.2); have hp_ : Kd.R (Kd.int .u32) 37 w19 w0.heap.size (fun k_ => (P0_ k_ ∨ w.heap.size ≤ k_)) (.slice (some ⟨go16, 0, none⟩) x0_1.length co17) y183 := (by rw [hw, Ny183.out]; exact HP18.1); clear HP18; have n0_ := A0_ (hp_); have n1_ := A0_ ((by rw [hw]; exact below_set (HB.out) GB16.out : Below w0.heap.size w0 w19)); have n2_ := A0_ (Kept.of_grown (S := (fun k_ => P0_ k_)) hg kl_ (fun k_ e_ => (HO_0.out.1 k_ e_))); clear HO_0; clear HB; clear HK; have HO_0 := n0_; have HB := n1_; have HK := n2_; clear n0_ n1_ n2_; clear hg hw hp_))
        go_ret
        exact ⟨by first | rfl | (simp [errW_none, errW_some] <;> rfl) | (simp [*, errW_none, errW_some] <;> rfl), mvR HO_0.out, bl_, kl_⟩

/-! ### a stretch of a row of the call's own -/
/-- v is the stretch x of a row of the call's own: pre lies ahead of it (o digits), post behind it. -/
def SR (pre post : List Int) (o N cap : Nat) (e : Nat) (W : World) (base : Nat) (ok : Nat → Prop) (v : Value) (x : List Int) : Prop :=
  pre.length = o ∧ ∃ g c, v = .slice (some ⟨g, o, none⟩) x.length c ∧ x.length ≤ c ∧ Kd.R (Kd.int .u32) e W base ok (.slice (some ⟨g, 0, none⟩) N cap) (pre ++ (x ++ post))
section
variable {pre post : List Int} {o N cap e : Nat} {W : World} {base : Nat} {ok ok' : Nat → Prop} {v : Value} {x : List Int}
theorem SR_mono (h : SR pre post o N cap e W base ok v x) (hk : ∀ k, ok k → ok' k) : SR pre post o N cap e W base ok' v x := by
  obtain ⟨ho, g, c, hv, hc, hr⟩ := h
  exact ⟨ho, g, c, hv, hc, Kd.R_mono hr hk⟩
theorem SR_alloc (h : SR pre post o N cap e W base ok v x) (b : Obj) : SR pre post o N cap e (W.alloc b) base ok v x := by
  obtain ⟨ho, g, c, hv, hc, hr⟩ := h
  exact ⟨ho, g, c, hv, hc, Kd.R_alloc hr b⟩
theorem SR_drew (h : SR pre post o N cap e W base ok v x) : SR pre post o N cap e W.drew base ok v x := by
  obtain ⟨ho, g, c, hv, hc, hr⟩ := h
  exact ⟨ho, g, c, hv, hc, Kd.R_drew hr⟩
theorem SR_drewN (h : SR pre post o N cap e W base ok v x) (m : Nat) : SR pre post o N cap e (W.drewN m) base ok v x := by
  obtain ⟨ho, g, c, hv, hc, hr⟩ := h
  exact ⟨ho, g, c, hv, hc, Kd.R_drewN hr m⟩
theorem SR_slice (h : SR pre post o N cap e W base ok v x) : ∃ A c, v = .slice A x.length c := by
  obtain ⟨ho, g, c, hv, hc, hr⟩ := h
  exact ⟨_, c, hv⟩
theorem SR_ok (h : SR pre post o N cap e W base ok v x) : ∀ k, v.ownBlock = some k → ok k := by
  obtain ⟨ho, g, c, rfl, hc, hr⟩ := h
  intro k hk
  exact hr.1 k hk
theorem SR_reads' {A : Option Addr} {n c : Nat} (h : SR pre post o N cap e W base ok (.slice A n c) x) : n = x.length ∧ n ≤ c ∧ Kd.C (Kd.int .u32) W A x.length x := by
  obtain ⟨rfl, g, c', hv, hc, hr⟩ := h
  injection hv with h1 h2 h3
  subst h1 h2 h3
  refine ⟨rfl, hc, ?_⟩
  have hC := (Kd.R_reads' hr).2.2
  have hm := Kd.C_mid (lo := pre.length) (hi := pre.length + x.length) (c := (pre ++ (x ++ post)).length + 1) hC (by omega) (by simp) (by omega)
  have e1 : ((pre ++ (x ++ post)).take (pre.length + x.length)).drop pre.length = x := by
    simp [List.take_append, List.drop_append]
  rw [e1, if_neg (by simp; omega)] at hm
  have e2 : (some (⟨g, 0, none⟩ : Addr)).map (·.add (pre.length * (Kd.int .u32).sz)) = some ⟨g, pre.length, none⟩ := by
    show some ((⟨g, 0, none⟩ : Addr).add (pre.length * 1)) = _
    rw [Nat.mul_one, add_plain]
  rw [e2] at hm
  exact hm
theorem SR_form (h : SR pre post o N cap e W base ok v x) (_hp : 0 < x.length) : ∃ g c, v = .slice (some ⟨g, o, none⟩) x.length c ∧ base ≤ g ∧ g < W.heap.size ∧ ∃ cells, W.heap[g]? = some (.cells cells e (0, 0)) := by
  obtain ⟨ho, g, c, hv, hc, hr⟩ := h
  obtain ⟨inner, hown⟩ := Kd.R_own hr
  obtain ⟨cells, hcl⟩ := own_typed hown g (by simp [Value.ownBlock])
  exact ⟨g, c, hv, Kd.R_base hr g (by simp [Value.ownBlock]), Kd.R_lt hr g (by simp [Value.ownBlock]), cells, hcl⟩
theorem SR_celln {g n c : Nat} (h : SR pre post o N cap e W base ok (.slice (some ⟨g, o, none⟩) n c) x) (i : Int) (h0 : 0 ≤ i) (h1 : i < n) : W.cell? ⟨g, o + i.toNat, none⟩ = some (.int .u32 (rd x i)) ∧ W.frozen? ⟨g, o + i.toNat, none⟩ = false := by
  obtain ⟨rfl, g', c', hv, hc, hr⟩ := h
  injection hv with e1 e2 e3
  injection e1 with e1
  injection e1 with e1
  subst e1 e2 e3
  obtain ⟨hN, _, _⟩ := Kd.R_reads' hr
  have hl : (pre ++ (x ++ post)).length = pre.length + (x.length + post.length) := by simp
  obtain ⟨q1, q2⟩ := Kd.R_celln 0 hr ((pre.length : Int) + i) (by omega) (by omega)
  have et : ((pre.length : Int) + i).toNat = pre.length + i.toNat := by omega
  rw [et] at q1 q2
  refine ⟨?_, q2⟩
  rw [q1]
  have : rdOf 0 (pre ++ (x ++ post)) ((pre.length : Int) + i) = rd x i := by
    obtain ⟨m, rfl⟩ := Int.eq_ofNat_of_zero_le h0
    have hm : m < x.length := by omega
    have e3 : ((pre.length : Int) + (m : Int)).toNat = pre.length + m := by omega
    simp [rd, rdOf, e3, List.getElem?_append_right, List.getElem?_append_left, hm]
  rw [this]
theorem SR_putg {g n c : Nat} (h : SR pre post o N cap e W base ok (.slice (some ⟨g, o, none⟩) n c) x) (i : Int) (h0 : 0 ≤ i) (h1 : i < n) (y : Int) : SR pre post o N cap e (W.setCell ⟨g, o + i.toNat, none⟩ (.int .u32 y)) base ok (.slice (some ⟨g, o, none⟩) n c) (x.set i.toNat y) ∧ W.grownBy (W.setCell ⟨g, o + i.toNat, none⟩ (.int .u32 y)) (some g) := by
  obtain ⟨rfl, g', c', hv, hc, hr⟩ := h
  injection hv with e1 e2 e3
  injection e1 with e1
  injection e1 with e1
  subst e1 e2 e3
  obtain ⟨q1, q2⟩ := Kd.R_putg hr ((pre.length : Int) + i) y
  have et : ((pre.length : Int) + i).toNat = pre.length + i.toNat := by omega
  have es : (pre ++ (x ++ post)).set (pre.length + i.toNat) y = pre ++ (x.set i.toNat y ++ post) := by
    rw [List.set_append, if_neg (by omega), Nat.add_sub_cancel_left, List.set_append, if_pos (by omega)]
  rw [et] at q1 q2
  rw [es] at q1
  exact ⟨⟨rfl, _, _, by rw [List.length_set], by rw [List.length_set]; exact hc, q1⟩, q2⟩
end
/-- V is the stretch lo to hi of the row u. -/
def CutOf (u : Value) (lo hi : Int) (V : Value) : Prop := ∃ g n cap, u = .slice (some ⟨g, 0, none⟩) n cap ∧ V = .slice (some ⟨g, lo.toNat, none⟩) (hi.toNat - lo.toNat) (cap - lo.toNat)
theorem own_cut {P : Program} (t : TypeId) {e base n cap : Nat} {W : World} {ok : Nat → Prop} {A : Option Addr} {xs : List Int} (ht : P.underlying t = some (.slice e)) (hinfo : (P.info? e).map (·.size) = some 1)
    (h : Kd.R (Kd.int .u32) e W base ok (.slice A n cap) xs) (lo hi : Int) (h0 : 0 ≤ lo) (h1 : lo < hi) (h2 : hi ≤ (xs.length : Int)) :
    ∃ V, Aside0 (CutOf (.slice A n cap) lo hi V) ∧ ∀ w1 : World, (Instr.slice t (.slice A n cap) (some (.int .i64 lo)) (some (.int .i64 hi)) none).run P w1 = .ok V w1 := by
  obtain ⟨hn, hc, _⟩ := Kd.R_reads' h
  obtain ⟨g, cap', hv, _⟩ := Kd.R_form h (by omega)
  injection hv with e1 e2 e3
  subst e1
  cases hq : P.info? e with
  | none => simp [hq] at hinfo
  | some i =>
    have hi' : i.size = 1 := by simpa [hq] using hinfo
    refine ⟨_, ⟨g, n, cap, rfl, rfl⟩, fun w1 => ?_⟩
    rw [cut_mid (P := P) t e .i64 .i64 ht hq 1 hi' (some ⟨g, 0, none⟩) n cap lo hi h0 (by omega) (by omega) hc w1, if_neg (by omega)]
    simp only [Option.map_some, add_plain, Nat.mul_one]
/-- A whole row as what lies ahead of a stretch, the stretch, and what lies behind it. -/
theorem SR_of {e base n cap : Nat} {W : World} {ok : Nat → Prop} {u V : Value} {xs : List Int} {lo hi : Int} (h : Kd.R (Kd.int .u32) e W base ok u xs) (hV : CutOf u lo hi V) (h0 : 0 ≤ lo) (h1 : lo < hi) (h2 : hi ≤ (xs.length : Int)) :
    ∃ g cap, u = .slice (some ⟨g, 0, none⟩) xs.length cap ∧ V = .slice (some ⟨g, lo.toNat, none⟩) ((xs.take hi.toNat).drop lo.toNat).length (cap - lo.toNat) ∧ SR (xs.take lo.toNat) (xs.drop hi.toNat) lo.toNat xs.length cap e W base ok V ((xs.take hi.toNat).drop lo.toNat) := by
  obtain ⟨g, n, cap, rfl, rfl⟩ := hV
  obtain ⟨rfl, hc, _⟩ := Kd.R_reads' h
  have hl : ((xs.take hi.toNat).drop lo.toNat).length = hi.toNat - lo.toNat := by rw [List.length_drop, List.length_take]; omega
  have hx : xs.take lo.toNat ++ ((xs.take hi.toNat).drop lo.toNat ++ xs.drop hi.toNat) = xs := by
    rw [← List.append_assoc]
    have e1 : xs.take lo.toNat = (xs.take hi.toNat).take lo.toNat := by rw [List.take_take]; congr 1; omega
    rw [e1, List.take_append_drop, List.take_append_drop]
  refine ⟨g, cap, rfl, by rw [hl], by rw [List.length_take]; omega, g, cap - lo.toNat, by rw [hl], by rw [hl]; omega, ?_⟩
  rw [hx]
  exact h
def own_copy.f (l0 l1 : List Int) : Option (Int × List Int) := some (((min l1.length l0.length : Nat) : Int), l1.take (min l1.length l0.length) ++ l0.drop (min l1.length l0.length))
theorem gate_copy {P : Program} {ops : Array Oper} {rest : List Oper} {o : Oper} {a : Act} {Q : Exit → Act → World → Prop} {W : World} {os_ : Array Operand} {ts : Array TypeId} (_ho : o.op = .call { callee := .builtin .copy, args := os_, argTypes := ts }) (h : wpList P ops Q (o :: rest) a W) : wpList P ops Q (o :: rest) a W := h
theorem own_copy.arm {P : Program} {ops : Array Oper} {rest : List Oper} {o : Oper} {a : Act} {Q : Exit → Act → World → Prop} {W : World} (hgd : o.guard = none) (s x : Operand) (t t' e : TypeId)
    (ho : o.op = .call { callee := .builtin .copy, args := #[s, x], argTypes := #[t, t'] }) (ht : P.underlying t = some (.slice e)) (hinfo : (P.info? e).map (·.size) = some 1)
    (P0_ : Nat → Prop) (u : Value) (l0 : List Int) (A1 : Option Addr) (c1 : Nat) (l1 : List Int) (r1 : Int) (r2 : List Int) (w0 : World) (hs : a.eval s = u) (hx : a.eval x = .slice A1 l1.length c1)
    (hB : Below w0.heap.size w0 W) (ho0 : Kd.R (Kd.int .u32) e W w0.heap.size P0_ u l0) (hr1 : ∀ W_, Kept W W_ (fun k_ => P0_ k_) → Kd.C (Kd.int .u32) W_ A1 l1.length l1) (_hc1 : l1.length ≤ c1) (h : own_copy.f l0 l1 = some (r1, r2))
    (K : ∀ w1, Kd.R (Kd.int .u32) e w1 w0.heap.size (fun k_ => (P0_ k_ ∨ W.heap.size ≤ k_)) u r2 → Below w0.heap.size w0 w1 → Kept W w1 (fun k_ => P0_ k_) → wpList P ops Q rest (a.put o.dst (.int .i64 r1)) w1) :
    wpList P ops Q (o :: rest) a W := by
  simp only [own_copy.f, Option.some.injEq, Prod.mk.injEq] at h
  obtain ⟨rfl, rfl⟩ := h
  refine Kd.R_copy (enc := Value.int .u32) (h1 := fun _ => rfl) 0 w0.heap.size hgd s x t t' e ho ht hinfo u l0 l1 A1 l1.length c1 P0_ hs hx ho0 (hr1 W (Kept.refl _ _)) hB hB.size ?_
  intro w1 h1 h2 h3
  exact K w1 (Kd.R_mono h1 (fun k hk => .inl hk)) h2 (Kept.of_grown h3 (Kept.refl _ _) (fun k hk => .inl (ho0.1 k hk)))

set_option maxHeartbeats 8000000 in
set_option maxRecDepth 100000 in
theorem quo_take_seg.calls {pre_ post_ : List Int} {o_ N_ cap_ : Nat} (k : Nat) (P0_ : Nat → Prop) (u9000_ : Value) (l0 : List Int) (A1 : Option Addr) (c1 : Nat) (l1 : List Int) (a2 : Int) (r1 : Bool) (r2 : List Int) (w0 w : World) (hB : Below w0.heap.size w0 w) (ho0 : SR pre_ post_ o_ N_ cap_ 37 w w0.heap.size P0_ u9000_ l0) (hr1 : ∀ W_, Kept w W_ (fun k_ => P0_ k_) → Kd.C (Kd.int .u32) W_ A1 l1.length l1) (hc1 : l1.length ≤ c1) (h : quo_take.f k l0 l1 a2 = some (r1, r2)) :
    Calls Try.prog 47 #[u9000_, .slice A1 l1.length c1, .int .u64 a2] w fun e w' => e = .returned (.bool r1) ∧ SR pre_ post_ o_ N_ cap_ 37 w' w0.heap.size (fun k_ => (P0_ k_ ∨ w.heap.size ≤ k_)) u9000_ r2 ∧ Below w0.heap.size w0 w' ∧ Kept w w' (fun k_ => P0_ k_) := by
  have HO0 := A0_ (show SR pre_ post_ o_ N_ cap_ 37 w w0.heap.size (fun k_ => (P0_ k_ ∨ w.heap.size ≤ k_)) u9000_ l0 from SR_mono ho0 (fun k_ hk => (.inl hk)))
  have HR1 := A0_ hr1
  have HC1 := A0_ hc1
  clear hr1 hc1
  have HK := A0_ (Kept.refl w (fun k_ => P0_ k_))
  have HW0 := A0_ hB.size
  have HB := A0_ hB
  clear hB
  have H : (quo_take.l0 k l0 l1 a2 0 0 l1 (l1.length : Int) 0) = some (r1, r2) := h
  clear h
  have H' := A0_ H
  clear H
  go_enter Try.func47, Try.ntmps47
  go_wp2
  go_loopg [7, 8, 14] k (fun kq v7 v8 v14 w' => ∃ (x0_1 : List Int) (x7_1 : Int) (x8_1 : Int) (x14_1 : Int), v7 = .int .u64 x7_1 ∧ v8 = .int .u32 x8_1 ∧ v14 = .int .i64 x14_1 ∧ Aside0 (quo_take.l0 kq x0_1 l1 a2 x7_1 x8_1 l1 (l1.length : Int) x14_1 = some (r1, r2)) ∧ Aside0 (kq ≤ k) ∧ Aside0 (SR pre_ post_ o_ N_ cap_ 37 w' w0.heap.size (fun k_ => (P0_ k_ ∨ w.heap.size ≤ k_)) u9000_ x0_1) ∧ Aside0 (Kept w w' (fun k_ => P0_ k_)) ∧ Aside0 (Below w0.heap.size w0 w'))
  case atStart => exact ⟨(l0), (0), (0), (0), rs_, rs_, rs_, H', ⟨Nat.le_refl _⟩, ⟨by (with_reducible repeat (first | apply SR_alloc | apply SR_drewN | apply SR_drew)); exact HO0.out⟩, ⟨kl_⟩, ⟨bl_⟩⟩
  case round =>
    clear H'
    (try clear c1); (try clear p2)
    obtain ⟨x0_1, x7_1, x8_1, x14_1, rfl, rfl, rfl, HA, HK1, HO_0, HK, HB⟩ := hrel
    cases gk with
    | zero => exact absurd HA.out (by simp [quo_take.l0])
    | succ k1 =>
      have H := HA.out
      clear HA
      simp only [quo_take.l0] at H
      by_cases c4 : x14_1 < (l1.length : Int)
      · rw [if_pos c4] at H
        have c4b0 : decide (x14_1 < (l1.length : Int)) = true := decide_eq_true c4
        clear c4
        by_cases c5 : 0 ≤ x14_1
        case neg => rw [if_neg c5] at H; exact absurd H (by simp)
        rw [if_pos c5] at H
        have c5b0 : decide (0 ≤ x14_1) = true := decide_eq_true c5
        clear c5
        by_cases c6 : x14_1 < (l1.length : Int)
        case neg => rw [if_neg c6] at H; exact absurd H (by simp)
        rw [if_pos c6] at H
        have c6b0 : decide (x14_1 < (l1.length : Int)) = true := decide_eq_true c6
        clear c6
        by_cases c7 : x14_1 < (x0_1.length : Int)
        case neg => rw [if_neg c7] at H; exact absurd H (by simp)
        rw [if_pos c7] at H
        have c7b0 : decide (x14_1 < (x0_1.length : Int)) = true := decide_eq_true c7
        clear c7
        replace H := Option.bind_eq_some_iff.mp H
        obtain ⟨⟨t177, t178⟩, A80, H⟩ := H
        (try dsimp only at H)
        have A8 := A0_ A80
        clear A80
        obtain ⟨y179, hy179⟩ : ∃ y_ : List Int, y_ = (x0_1.set (x14_1 : Int).toNat t177) := ⟨_, rfl⟩
        replace H : (quo_take.l0 k1 y179 l1 a2 ((IntKind.u64.wrap ((IntKind.u64.wrap ((IntKind.u64.wrap (rd l1 x14_1)) * a2)) + x7_1)) / 4294967296) t178 l1 (l1.length : Int) (wrap64 (x14_1 + 1))) = some (r1, r2) := by first | (rw [hy179]; with_reducible exact H) | (rw [hy179]; exact H) | exact H
        have Ny179 := A0_ hy179
        clear hy179
        have H' := A0_ H
        clear H
        have p175 : 0 ≤ (x14_1 : Int) := od_
        have q175 : x14_1 < (l1.length : Int) := od_
        obtain ⟨ad175, e175, hx175_0⟩ := Kd.at_int (Kd.C_kept_now HR1.out HK.out) x14_1 p175 q175
        cases e175
        replace p175 := eq_true p175
        replace q175 := eq_true q175
        obtain ⟨Ao10, co10, eo10⟩ := SR_slice HO_0.out
        subst eo10
        have p176 : 0 ≤ (x14_1 : Int) := od_
        have q176 : x14_1 < (x0_1.length : Int) := od_
        obtain ⟨ad176, e176, hx176_0⟩ := Kd.at_int (SR_reads' HO_0.out).2.2 x14_1 p176 q176
        cases e176
        replace p176 := eq_true p176
        replace q176 := eq_true q176
        go_wp2_with (first | ((with_reducible refine gate_callee (f := 44) rfl ?_); refine goesM_ (some 37) Try.func44 #[.int .u32 (rd x0_1 x14_1), .int .u32 ((IntKind.u64.wrap ((IntKind.u64.wrap ((IntKind.u64.wrap (rd l1 x14_1)) * a2)) + x7_1)) % 4294967296), .int .u32 x8_1] rfl ?_; (with_reducible refine (bits_Sub32.calls (rd x0_1 x14_1) ((IntKind.u64.wrap ((IntKind.u64.wrap ((IntKind.u64.wrap (rd l1 x14_1)) * a2)) + x7_1)) % 4294967296) x8_1 t177 t178 _ A8.out).mono ?_); rintro e w' ⟨rfl, ⟨nd, rfl⟩⟩; refine ⟨_, rfl, ?_⟩; (try (rw [drewN_self wr]; generalize hq_ : World.drewN wr _ = wr; have n0_ : Aside0 (SR pre_ post_ o_ N_ cap_ 37 wr w0.heap.size (fun k_ => (P0_ k_ ∨ w.heap.size ≤ k_)) (.slice (some ad176) x0_1.length co10) x0_1) := ⟨by rw [← hq_]; exact (by (with_reducible repeat (first | apply SR_alloc | apply SR_drewN | apply SR_drew)); exact HO_0.out)⟩; have n1_ : Aside0 (Kept w wr (fun k_ => P0_ k_)) := ⟨by rw [← hq_]; exact kl_⟩; have n2_ : Aside0 (Below w0.heap.size w0 wr) := ⟨by rw [← hq_]; exact bl_⟩; clear HO_0 HK HB hq_; have HO_0 := n0_; have HK := n1_; have HB := n2_; clear n0_ n1_ n2_)); have p9 : 0 ≤ (x14_1 : Int) := od_; have q9 : (x14_1 : Int) < ((x0_1.length : Int) : Int) := od_; obtain ⟨go9, co9, eo9, gb9, gl9, cl9, HG9⟩ := SR_form HO_0.out (by omega); (first | cases eo9 | (injection eo9 with ea_ en_ ec_; (first | subst ea_ | (injection ea_ with ea_; subst ea_)); subst ec_; clear en_)); have GB9 := A0_ gb9; have GG9 := A0_ HG9; clear gb9 gl9 HG9; have HMgo9 := A0_ (show (P0_ go9 ∨ w.heap.size ≤ go9) from (SR_ok HO_0.out _ rfl)); (first | simp only [add_plain] at hx176_0 | skip); obtain ⟨hx9_0, hf9_0⟩ := SR_celln HO_0.out (x14_1 : Int) p9 q9; replace p9 := eq_true p9; replace q9 := eq_true q9; obtain ⟨hy11_, hz11_⟩ := SR_celln HO_0.out (x14_1 : Int) od_ od_; have HP11 := SR_putg HO_0.out (x14_1 : Int) od_ od_ t177) | ((with_reducible refine gate_store (t := 37) (p := 40) rfl ?_); refine store_event (t := 37) (p := 40) (v := ?vo_w12) (w1 := (wr.setCell ⟨go9, o_ + (x14_1 : Int).toNat, none⟩ (.int .u32 t177))) ?hg ?ho ?hn ?hr ?_; (case ho => rfl); (case hg => rfl); (case hn => rfl); (case hr => first | (go_simp; done) | (go_simp; rfl)); intro w12 hw; have hg : wr.grownBy w12 (some go9) := (by rw [hw]; exact HP11.2); have hp_ : SR pre_ post_ o_ N_ cap_ 37 w12 w0.heap.size (fun k_ => (P0_ k_ ∨ w.heap.size ≤ k_)) (.slice (some ⟨go9, o_, none⟩) x0_1.length co10) y179 := (by rw [hw, Ny179.out]; exact HP11.1); clear HP11; have n0_ := A0_ (hp_); have n1_ := A0_ ((by rw [hw]; exact below_set (HB.out) GB9.out : Below w0.heap.size w0 w12)); have n2_ := A0_ (Kept.of_grown (S := (fun k_ => P0_ k_)) hg kl_ (fun k_ e_ => (SR_ok HO_0.out k_ e_))); clear HO_0; clear HB; clear HK; have HO_0 := n0_; have HB := n1_; have HK := n2_; clear n0_ n1_ n2_; clear hg hw hp_))
        go_roundg k1
        case measure => have := HK1.out; omega
        case rel => exact ⟨(y179), ((IntKind.u64.wrap ((IntKind.u64.wrap ((IntKind.u64.wrap (rd l1 x14_1)) * a2)) + x7_1)) / 4294967296), (t178), (wrap64 (x14_1 + 1)), rs_, rs_, rs_, H', ⟨by have := HK1.out; omega⟩, ⟨by (with_reducible repeat (first | apply SR_alloc | apply SR_drewN | apply SR_drew)); exact HO_0.out⟩, ⟨kl_⟩, ⟨bl_⟩⟩
      · rw [if_neg c4] at H
        have c4b0 : decide (x14_1 < (l1.length : Int)) = false := decide_eq_false c4
        clear c4
        by_cases c13 : 0 ≤ (l1.length : Int)
        case neg => rw [if_neg c13] at H; exact absurd H (by simp)
        rw [if_pos c13] at H
        have c13b0 : decide (0 ≤ (l1.length : Int)) = true := decide_eq_true c13
        have c13b1 : decide (0 ≤ l1.length) = true := decide_eq_true (by omega)
        clear c13
        by_cases c14 : (l1.length : Int) < (x0_1.length : Int)
        case neg => rw [if_neg c14] at H; exact absurd H (by simp)
        rw [if_pos c14] at H
        have c14b0 : decide ((l1.length : Int) < (x0_1.length : Int)) = true := decide_eq_true c14
        have c14b1 : decide (l1.length < x0_1.length) = true := decide_eq_true (Int.ofNat_lt.mp c14)
        clear c14
        replace H := Option.bind_eq_some_iff.mp H
        obtain ⟨⟨t181, t182⟩, A150, H⟩ := H
        (try dsimp only at H)
        have A15 := A0_ A150
        clear A150
        obtain ⟨y183, hy183⟩ : ∃ y_ : List Int, y_ = (x0_1.set ((l1.length : Int) : Int).toNat t181) := ⟨_, rfl⟩
        replace H : (some (decide (t182 > 0), y183)) = some (r1, r2) := by first | (rw [hy183]; with_reducible exact H) | (rw [hy183]; exact H) | exact H
        have Ny183 := A0_ hy183
        clear hy183
        simp only [Option.some.injEq, Prod.mk.injEq] at H
        obtain ⟨rfl, rfl⟩ := H
        obtain ⟨Ao17, co17, eo17⟩ := SR_slice HO_0.out
        subst eo17
        have p180 : 0 ≤ ((l1.length : Int) : Int) := od_
        have q180 : (l1.length : Int) < (x0_1.length : Int) := od_
        obtain ⟨ad180, e180, hx180_0⟩ := Kd.at_int (SR_reads' HO_0.out).2.2 (l1.length : Int) p180 q180
        cases e180
        (try simp only [Go.IntWalk.toNatUp] at hx180_0)
        replace p180 := eq_true p180
        replace q180 := eq_true q180
        go_wp2_with (first | ((with_reducible refine gate_callee (f := 44) rfl ?_); refine goesM_ (some 54) Try.func44 #[.int .u32 (rd x0_1 (l1.length : Int)), .int .u32 ((x7_1) % 4294967296), .int .u32 x8_1] rfl ?_; (with_reducible refine (bits_Sub32.calls (rd x0_1 (l1.length : Int)) ((x7_1) % 4294967296) x8_1 t181 t182 _ A15.out).mono ?_); rintro e w' ⟨rfl, ⟨nd, rfl⟩⟩; refine ⟨_, rfl, ?_⟩; (try (rw [drewN_self wr]; generalize hq_ : World.drewN wr _ = wr; have n0_ : Aside0 (SR pre_ post_ o_ N_ cap_ 37 wr w0.heap.size (fun k_ => (P0_ k_ ∨ w.heap.size ≤ k_)) (.slice (some ad180) x0_1.length co17) x0_1) := ⟨by rw [← hq_]; exact (by (with_reducible repeat (first | apply SR_alloc | apply SR_drewN | apply SR_drew)); exact HO_0.out)⟩; have n1_ : Aside0 (Kept w wr (fun k_ => P0_ k_)) := ⟨by rw [← hq_]; exact kl_⟩; have n2_ : Aside0 (Below w0.heap.size w0 wr) := ⟨by rw [← hq_]; exact bl_⟩; clear HO_0 HK HB hq_; have HO_0 := n0_; have HK := n1_; have HB := n2_; clear n0_ n1_ n2_)); have p16 : 0 ≤ ((l1.length : Int) : Int) := od_; have q16 : ((l1.length : Int) : Int) < ((x0_1.length : Int) : Int) := od_; obtain ⟨go16, co16, eo16, gb16, gl16, cl16, HG16⟩ := SR_form HO_0.out (by omega); (first | cases eo16 | (injection eo16 with ea_ en_ ec_; (first | subst ea_ | (injection ea_ with ea_; subst ea_)); subst ec_; clear en_)); have GB16 := A0_ gb16; have GG16 := A0_ HG16; clear gb16 gl16 HG16; have HMgo16 := A0_ (show (P0_ go16 ∨ w.heap.size ≤ go16) from (SR_ok HO_0.out _ rfl)); (first | simp only [add_plain] at hx180_0 | skip); obtain ⟨hx16_0, hf16_0⟩ := SR_celln HO_0.out ((l1.length : Int) : Int) p16 q16; (try simp only [Go.IntWalk.toNatUp] at hx16_0 hf16_0); replace p16 := eq_true p16; replace q16 := eq_true q16; obtain ⟨hy18_, hz18_⟩ := SR_celln HO_0.out ((l1.length : Int) : Int) od_ od_; (try simp only [Go.IntWalk.toNatUp] at hy18_ hz18_); have HP18 := SR_putg HO_0.out ((l1.length : Int) : Int) od_ od_ t181) | ((with_reducible refine gate_store (t := 37) (p := 57) rfl ?_); refine store_event (t := 37) (p := 57) (v := ?vo_w19) (w1 := (wr.setCell ⟨go16, o_ + ((l1.length : Int) : Int).toNat, none⟩ (.int .u32 t181))) ?hg ?ho ?hn ?hr ?_; (case ho => rfl); (case hg => rfl); (case hn => rfl); (case hr => first | (go_simp; done) | (go_simp; rfl)); intro w19 hw; have hg : wr.grownBy w19 (some go16) := (by rw [hw]; exact HP18.2); have hp_ : SR pre_ post_ o_ N_ cap_ 37 w19 w0.heap.size (fun k_ => (P0_ k_ ∨ w.heap.size ≤ k_)) (.slice (some ⟨go16, o_, none⟩) x0_1.length co17) y183 := (by rw [hw, Ny183.out]; exact HP18.1); clear HP18; have n0_ := A0_ (hp_); have n1_ := A0_ ((by rw [hw]; exact below_set (HB.out) GB16.out : Below w0.heap.size w0 w19)); have n2_ := A0_ (Kept.of_grown (S := (fun k_ => P0_ k_)) hg kl_ (fun k_ e_ => (SR_ok HO_0.out k_ e_))); clear HO_0; clear HB; clear HK; have HO_0 := n0_; have HB := n1_; have HK := n2_; clear n0_ n1_ n2_; clear hg hw hp_))
        go_ret
        exact ⟨by first | rfl | (simp [errW_none, errW_some] <;> rfl) | (simp [*, errW_none, errW_some] <;> rfl), by (with_reducible repeat (first | apply SR_alloc | apply SR_drewN | apply SR_drew)); exact HO_0.out, bl_, kl_⟩

/-! ### quo_take at a stretch of a row -/
def quo_take_at.f (k : Nat) (l0 : List Int) (lo hi : Int) (l1 : List Int) (a2 : Int) : Option (Bool × List Int) :=
  if 0 ≤ lo ∧ lo < hi ∧ hi ≤ (l0.length : Int) then (quo_take.f k ((l0.take hi.toNat).drop lo.toNat) l1 a2).bind fun bt => some (bt.1, l0.take lo.toNat ++ (bt.2 ++ l0.drop hi.toNat)) else none
theorem quo_take_at.mono : ∀ a0 a1 a2 a3 a4 k, LeO (quo_take_at.f k a0 a1 a2 a3 a4) (quo_take_at.f (k + 1) a0 a1 a2 a3 a4) := by
  intro a0 a1 a2 a3 a4 k
  unfold quo_take_at.f
  exact LeO.ite (LeO.bind (quo_take.mono _ _ _ _) (fun _ => LeO.refl _)) (LeO.refl _)
theorem quo_take_at.fits {k : Nat} {l0 : List Int} {lo hi : Int} {l1 : List Int} {a2 : Int} {r : Bool × List Int} (h : quo_take_at.f k l0 lo hi l1 a2 = some r) : 0 ≤ lo ∧ lo < hi ∧ hi ≤ (l0.length : Int) := by
  unfold quo_take_at.f at h
  by_cases hc : 0 ≤ lo ∧ lo < hi ∧ hi ≤ (l0.length : Int)
  · exact hc
  · rw [if_neg hc] at h; cases h
theorem quo_take_at.calls (k : Nat) (P0_ : Nat → Prop) (u9000_ : Value) (l0 : List Int) (lo hi : Int) (A1 : Option Addr) (c1 : Nat) (l1 : List Int) (a2 : Int) (r1 : Bool) (r2 : List Int) (w0 w : World) (hB : Below w0.heap.size w0 w) (ho0 : Kd.R (Kd.int .u32) 37 w w0.heap.size P0_ u9000_ l0) (hr1 : ∀ W_, Kept w W_ (fun k_ => P0_ k_) → Kd.C (Kd.int .u32) W_ A1 l1.length l1) (hc1 : l1.length ≤ c1) (h : quo_take_at.f k l0 lo hi l1 a2 = some (r1, r2)) (V_ : Value) (hV : CutOf u9000_ lo hi V_) :
    Calls Try.prog 47 #[V_, .slice A1 l1.length c1, .int .u64 a2] w fun e w' => e = .returned (.bool r1) ∧ Kd.R (Kd.int .u32) 37 w' w0.heap.size (fun k_ => (P0_ k_ ∨ w.heap.size ≤ k_)) u9000_ r2 ∧ Below w0.heap.size w0 w' ∧ Kept w w' (fun k_ => P0_ k_) := by
  obtain ⟨f0, f1, f2⟩ := quo_take_at.fits h
  unfold quo_take_at.f at h
  rw [if_pos ⟨f0, f1, f2⟩] at h
  obtain ⟨bt, hb, hr⟩ := Option.bind_eq_some_iff.mp h
  obtain ⟨g, cap, hu, hV', hS⟩ := SR_of (n := 0) (cap := 0) ho0 hV f0 f1 f2
  simp only [Option.some.injEq, Prod.mk.injEq] at hr
  obtain ⟨rfl, rfl⟩ := hr
  obtain ⟨bt1, bt2⟩ := bt
  refine (quo_take_seg.calls k P0_ V_ _ A1 c1 l1 a2 bt1 bt2 w0 w hB hS hr1 hc1 hb).mono ?_
  rintro e w' ⟨rfl, hs, hbl, hk⟩
  refine ⟨rfl, ?_, hbl, hk⟩
  obtain ⟨ho_, g', c', hv, hc, hR⟩ := hs
  rw [hV'] at hv
  injection hv with e1 e2 e3
  injection e1 with e1
  injection e1 with e1
  subst e1
  rw [hu]
  exact hR


end Go.Proofs.Ytohkjfdcmiiehaa.P
