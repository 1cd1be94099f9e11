/- What the Go functions of these names come to, as plain Lean functions, and the walks that show it. Written for this claim by a turned copy of the print program; Lean checks it. -/
import Derived.Test.YtohkjfdcmiiehaaP0
import Derived.Test.YtohkjfdcmiiehaaP1
import Derived.Test.YtohkjfdcmiiehaaP2
namespace Go.Proofs.Ytohkjfdcmiiehaa.P
open Go.RowKit Go.Proofs.YtohkjfdcmiiehaaW.PrintWords Go.Proofs.YtohkjfdcmiiehaaW.PrintLast Go.Proofs.YtohkjfdcmiiehaaW.PrintMore
attribute [local go_sem] max2_int min2_int max_two min_two max_three min_three max_four min_four   -- for this text's walks alone
set_option linter.unusedVariables false
set_option linter.unusedSimpArgs false

/-! ### bits_Sub32: function 44 -/
def bits_Sub32.f (a0 : Int) (a1 : Int) (a2 : Int) : Option (Int × Int) := some ((((a0 - a1) % 4294967296) - a2) % 4294967296, (Go.bits .or .u32 (Go.bits .and .u32 (Go.bits .xor .u32 IntKind.u32.max a0) a1) (Go.bits .and .u32 (Go.bits .xor .u32 IntKind.u32.max (Go.bits .xor .u32 a0 a1)) ((((a0 - a1) % 4294967296) - a2) % 4294967296))) / 2147483648)
set_option maxHeartbeats 8000000 in
set_option maxRecDepth 100000 in
theorem bits_Sub32.calls (a0 : Int) (a1 : Int) (a2 : Int) (r1 : Int) (r2 : Int) (w : World) (h : bits_Sub32.f a0 a1 a2 = some (r1, r2)) :
    Calls Try.prog 44 #[.int .u32 a0, .int .u32 a1, .int .u32 a2] w fun e w' => e = .returned (.tuple #[.int .u32 r1, .int .u32 r2]) ∧ Drawn0 w w' := by
  have H : (some ((((a0 - a1) % 4294967296) - a2) % 4294967296, (Go.bits .or .u32 (Go.bits .and .u32 (Go.bits .xor .u32 IntKind.u32.max a0) a1) (Go.bits .and .u32 (Go.bits .xor .u32 IntKind.u32.max (Go.bits .xor .u32 a0 a1)) ((((a0 - a1) % 4294967296) - a2) % 4294967296))) / 2147483648)) = some (r1, r2) := h
  clear h
  simp only [Option.some.injEq, Prod.mk.injEq] at H
  obtain ⟨rfl, rfl⟩ := H
  go_enter Try.func44, Try.ntmps44
  go_wp2
  go_ret2
  exact ⟨by first | rfl | (simp; done) | (simp [*]; done), by repeat (first | exact Drawn0.refl _ | apply Drawn0.step)⟩

/-! ### bits_Add32: function 42 -/
def bits_Add32.f (a0 : Int) (a1 : Int) (a2 : Int) : Option (Int × Int) := some ((IntKind.u64.wrap ((IntKind.u64.wrap ((IntKind.u64.wrap (a0)) + (IntKind.u64.wrap (a1)))) + (IntKind.u64.wrap (a2)))) % 4294967296, ((IntKind.u64.wrap ((IntKind.u64.wrap ((IntKind.u64.wrap (a0)) + (IntKind.u64.wrap (a1)))) + (IntKind.u64.wrap (a2)))) / 4294967296) % 4294967296)
set_option maxHeartbeats 8000000 in
set_option maxRecDepth 100000 in
theorem bits_Add32.calls (a0 : Int) (a1 : Int) (a2 : Int) (r1 : Int) (r2 : Int) (w : World) (h : bits_Add32.f a0 a1 a2 = some (r1, r2)) :
    Calls Try.prog 42 #[.int .u32 a0, .int .u32 a1, .int .u32 a2] w fun e w' => e = .returned (.tuple #[.int .u32 r1, .int .u32 r2]) ∧ Drawn0 w w' := by
  have H : (some ((IntKind.u64.wrap ((IntKind.u64.wrap ((IntKind.u64.wrap (a0)) + (IntKind.u64.wrap (a1)))) + (IntKind.u64.wrap (a2)))) % 4294967296, ((IntKind.u64.wrap ((IntKind.u64.wrap ((IntKind.u64.wrap (a0)) + (IntKind.u64.wrap (a1)))) + (IntKind.u64.wrap (a2)))) / 4294967296) % 4294967296)) = some (r1, r2) := h
  clear h
  simp only [Option.some.injEq, Prod.mk.injEq] at H
  obtain ⟨rfl, rfl⟩ := H
  go_enter Try.func42, Try.ntmps42
  go_wp2
  go_ret2
  exact ⟨by first | rfl | (simp; done) | (simp [*]; done), by repeat (first | exact Drawn0.refl _ | apply Drawn0.step)⟩

/-! ### nat_Bits: function 19 -/
def nat_Bits.f (k : Nat) (l0 : List Int) : Option (Int) := (nat_trim.f k l0).bind fun t268 => (if (t268.length : Int) = 0 then (some 0) else (if 0 ≤ (wrap64 ((t268.length : Int) - 1)) then (if (wrap64 ((t268.length : Int) - 1)) < (t268.length : Int) then ((bits_Len32.f (rd t268 (wrap64 ((t268.length : Int) - 1)))).bind fun t272 => (some (wrap64 ((wrap64 (32 * (wrap64 ((t268.length : Int) - 1)))) + t272)))) else (none)) else (none)))
theorem nat_Bits.mono : ∀ a0 k, LeO (nat_Bits.f k a0) (nat_Bits.f (k + 1) a0) := by
  intro a0 k
  unfold nat_Bits.f
  repeat' first
      | (with_reducible exact nat_trim.mono _ _)
      | (with_reducible exact LeO.refl _)
      | (with_reducible exact LeO.none _)
      | (with_reducible refine LeO.ite ?_ ?_)
      | (with_reducible refine LeO.bind ?_ (fun _ => ?_))
      | exact nat_trim.mono _ _
      | exact LeO.none _
      | refine LeO.ite ?_ ?_
      | refine LeO.bind ?_ (fun _ => ?_)
set_option maxHeartbeats 8000000 in
set_option maxRecDepth 100000 in
theorem nat_Bits.calls (k : Nat) (A0 : Option Addr) (c0 : Nat) (l0 : List Int) (r : Int) (w : World) (hr0 : Kd.C (Kd.int .u32) w A0 l0.length l0) (hc0 : l0.length ≤ c0) (h : nat_Bits.f k l0 = some r) :
    Calls Try.prog 19 #[.slice A0 l0.length c0] w fun e w' => e = .returned (.int .i64 r) ∧ Below w.heap.size w w' := by
  have HR0 := A0_ hr0
  have HC0 := A0_ hc0
  clear hr0 hc0
  have HB := A0_ (Below.refl w.heap.size w)
  have H : ((nat_trim.f k l0).bind fun t268 => (if (t268.length : Int) = 0 then (some 0) else (if 0 ≤ (wrap64 ((t268.length : Int) - 1)) then (if (wrap64 ((t268.length : Int) - 1)) < (t268.length : Int) then ((bits_Len32.f (rd t268 (wrap64 ((t268.length : Int) - 1)))).bind fun t272 => (some (wrap64 ((wrap64 (32 * (wrap64 ((t268.length : Int) - 1)))) + t272)))) else (none)) else (none)))) = some r := h
  clear h
  replace H := Option.bind_eq_some_iff.mp H
  obtain ⟨t268, A20, H⟩ := H
  (try dsimp only at H)
  have A2 := A0_ A20
  clear A20
  by_cases c3 : (t268.length : Int) = 0
  · rw [if_pos c3] at H
    have c3b0 : ((t268.length : Int) == 0) = true := beq_iff_eq.mpr c3
    have c3b1 : ((t268.length : Int) != 0) = false := bne_eq_false_iff_eq.mpr c3
    clear c3
    obtain rfl := Option.some.inj H
    go_enter Try.func19, Try.ntmps19
    go_wp2_with (first | ((with_reducible refine gate_callee (f := 40) rfl ?_); refine goesM_ (some 4) Try.func40 #[.slice A0 l0.length c0] rfl ?_; (with_reducible refine (nat_trim.calls k (fun k_ => k_ < w.heap.size) _ _ l0 t268 _ ?side1 A2.out).mono ?_); (case side1 => exact Kd.V_mk HC0.out (Kd.F_below (Kd.C_F (Kd.heap_int .u32) HR0.out) bl_)); rintro e w4 ⟨v269, rfl, ho0, hb⟩; refine ⟨_, rfl, ?_⟩; have n0_ := A0_ (Kd.V_lower (Kd.V_mono (ok' := fun k_ => True) ho0 (fun k_ hk_ => trivial)) (below_size bl_)); have n1_ := A0_ (below_step bl_ hb); clear HB; have HO270 := n0_; have HB := n1_; clear n0_ n1_; (try clear hb); (try clear hb2); (try clear hk); (try clear hi); (try clear ho0); obtain ⟨Ao5, co5, eo5⟩ := Kd.V_slice HO270.out; subst eo5))
    go_ret
    exact ⟨by first | rfl | (simp [errW_none, errW_some] <;> rfl) | (simp [*, errW_none, errW_some] <;> rfl), bl_⟩
  · rw [if_neg c3] at H
    have c3b0 : ((t268.length : Int) == 0) = false := beq_eq_false_iff_ne.mpr c3
    have c3b1 : ((t268.length : Int) != 0) = true := bne_iff_ne.mpr c3
    have c3b2 : ¬ (t268 = []) := fun h_ => c3 (by rw [h_]; rfl)
    obtain ⟨ji6, hji6⟩ : ∃ j_ : Int, (wrap64 ((t268.length : Int) - 1)) = j_ := ⟨_, rfl⟩
    (first | rw [hji6] at H | simp only [hji6] at H)
    (try rw [hji6] at A2)
    have hji6w : (IntKind.i64.wrap ((t268.length : Int) - 1)) = ji6 := (i64_w _).trans hji6
    by_cases c7 : 0 ≤ (ji6)
    case neg => rw [if_neg c7] at H; exact absurd H (by simp)
    rw [if_pos c7] at H
    have c7b0 : decide (0 ≤ (ji6)) = true := decide_eq_true c7
    clear c7
    by_cases c8 : (ji6) < (t268.length : Int)
    case neg => rw [if_neg c8] at H; exact absurd H (by simp)
    rw [if_pos c8] at H
    have c8b0 : decide ((ji6) < (t268.length : Int)) = true := decide_eq_true c8
    clear c8
    replace H := Option.bind_eq_some_iff.mp H
    obtain ⟨t272, A90, H⟩ := H
    (try dsimp only at H)
    have A9 := A0_ A90
    clear A90
    obtain rfl := Option.some.inj H
    go_enter Try.func19, Try.ntmps19
    go_wp2_with (first | ((with_reducible refine gate_callee (f := 40) rfl ?_); refine goesM_ (some 4) Try.func40 #[.slice A0 l0.length c0] rfl ?_; (with_reducible refine (nat_trim.calls k (fun k_ => k_ < w.heap.size) _ _ l0 t268 _ ?side1 A2.out).mono ?_); (case side1 => exact Kd.V_mk HC0.out (Kd.F_below (Kd.C_F (Kd.heap_int .u32) HR0.out) bl_)); rintro e w10 ⟨v269, rfl, ho0, hb⟩; refine ⟨_, rfl, ?_⟩; have n0_ := A0_ (Kd.V_lower (Kd.V_mono (ok' := fun k_ => True) ho0 (fun k_ hk_ => trivial)) (below_size bl_)); have n1_ := A0_ (below_step bl_ hb); clear HB; have HO270 := n0_; have HB := n1_; clear n0_ n1_; (try clear hb); (try clear hb2); (try clear hk); (try clear hi); (try clear ho0); obtain ⟨Ao11, co11, eo11⟩ := Kd.V_slice HO270.out; subst eo11; have p271 : 0 ≤ ((ji6) : Int) := od_; have q271 : (ji6) < (t268.length : Int) := od_; obtain ⟨ad271, e271, hx271_0⟩ := Kd.at_int (Kd.V_reads' HO270.out).2.2 (ji6) p271 q271; cases e271; replace p271 := eq_true p271; replace q271 := eq_true q271) | ((with_reducible refine gate_callee (f := 41) rfl ?_); refine goesM_ (some 18) Try.func41 #[.int .u32 (rd t268 (ji6))] rfl ?_ (by (try simp only [List.map_toArray, List.map_cons, List.map_nil]); first | done | (simp only [hji6]; rfl) | rfl | (simp only [List.length_drop, List.length_take]; rfl)); (with_reducible refine (bits_Len32.calls (rd t268 (ji6)) t272 _ A9.out).mono ?_); rintro e w' ⟨rfl, ⟨nd, rfl⟩⟩; refine ⟨_, rfl, ?_⟩))
    go_ret
    exact ⟨by first | rfl | (simp [errW_none, errW_some] <;> rfl) | (simp only [← hji6]; first | rfl | (simp [errW_none, errW_some] <;> rfl)) | (simp [*, errW_none, errW_some] <;> rfl), bl_⟩

/-! ### nat_Add: function 20 -/
mutual
def nat_Add.j0 : Nat → List Int → List Int → Option (List Int)
  | 0, _, _ => none
  | k + 1, x0, x1 => if 0 ≤ (wrap64 ((x0.length : Int) + 1)) then (if (wrap64 ((x0.length : Int) + 1) : Int).toNat ≤ 70368744177664 then (nat_Add.l0 k x0 x1 (List.replicate (wrap64 ((x0.length : Int) + 1) : Int).toNat 0) 0 (x0.length : Int) 0) else (none)) else (none)
def nat_Add.l0 : Nat → List Int → List Int → List Int → Int → Int → Int → Option (List Int)
  | 0, _, _, _, _, _, _ => none
  | k + 1, x0, x1, x5, x6, x21, x22 => if x22 < x21 then (if x22 < (x1.length : Int) then (if 0 ≤ x22 then (if x22 < (x0.length : Int) then ((bits_Add32.f (rd x0 x22) (rd x1 x22) x6).bind fun bt278 => (if x22 < (x5.length : Int) then (nat_Add.l0 k x0 x1 (x5.set (x22 : Int).toNat bt278.1) bt278.2 x21 (wrap64 (x22 + 1))) else (none))) else (none)) else (none)) else (if 0 ≤ x22 then (if x22 < (x0.length : Int) then ((bits_Add32.f (rd x0 x22) 0 x6).bind fun bt282 => (if x22 < (x5.length : Int) then (nat_Add.l0 k x0 x1 (x5.set (x22 : Int).toNat bt282.1) bt282.2 x21 (wrap64 (x22 + 1))) else (none))) else (none)) else (none))) else (if 0 ≤ (x0.length : Int) then (if (x0.length : Int) < (x5.length : Int) then ((nat_trim.f k (x5.set ((x0.length : Int) : Int).toNat x6)).bind fun t286 => (some t286)) else (none)) else (none))
end
def nat_Add.f (k : Nat) (l0 : List Int) (l1 : List Int) : Option (List Int) := if (l0.length : Int) < (l1.length : Int) then (nat_Add.j0 k l1 l0) else (nat_Add.j0 k l0 l1)
theorem nat_Add.mono_l : ∀ k, (∀ y0 y1, LeO (nat_Add.j0 k y0 y1) (nat_Add.j0 (k + 1) y0 y1)) ∧ (∀ y0 y1 y2 y3 y4 y5, LeO (nat_Add.l0 k y0 y1 y2 y3 y4 y5) (nat_Add.l0 (k + 1) y0 y1 y2 y3 y4 y5))
  | 0 => ⟨fun _ _ r h => by simp [nat_Add.j0] at h, fun _ _ _ _ _ _ r h => by simp [nat_Add.l0] at h⟩
  | k + 1 => by
    obtain ⟨ih0, ih1⟩ := nat_Add.mono_l k
    refine ⟨?_, ?_⟩
    · intro y0 y1
      unfold nat_Add.j0
      repeat' first
      | (with_reducible exact ih0 _ _)
      | (with_reducible exact ih1 _ _ _ _ _ _)
      | (with_reducible exact nat_trim.mono _ _)
      | (with_reducible exact LeO.refl _)
      | (with_reducible exact LeO.none _)
      | (with_reducible refine LeO.ite ?_ ?_)
      | (with_reducible refine LeO.bind ?_ (fun _ => ?_))
      | exact ih0 _ _
      | exact ih1 _ _ _ _ _ _
      | exact nat_trim.mono _ _
      | exact LeO.none _
      | refine LeO.ite ?_ ?_
      | refine LeO.bind ?_ (fun _ => ?_)
    · intro y0 y1 y2 y3 y4 y5
      unfold nat_Add.l0
      repeat' first
      | (with_reducible exact ih0 _ _)
      | (with_reducible exact ih1 _ _ _ _ _ _)
      | (with_reducible exact nat_trim.mono _ _)
      | (with_reducible exact LeO.refl _)
      | (with_reducible exact LeO.none _)
      | (with_reducible refine LeO.ite ?_ ?_)
      | (with_reducible refine LeO.bind ?_ (fun _ => ?_))
      | exact ih0 _ _
      | exact ih1 _ _ _ _ _ _
      | exact nat_trim.mono _ _
      | exact LeO.none _
      | refine LeO.ite ?_ ?_
      | refine LeO.bind ?_ (fun _ => ?_)
theorem nat_Add.mono : ∀ a0 a1 k, LeO (nat_Add.f k a0 a1) (nat_Add.f (k + 1) a0 a1) := by
  intro a0 a1 k
  obtain ⟨ih0, ih1⟩ := nat_Add.mono_l k
  unfold nat_Add.f
  repeat' first
      | (with_reducible exact ih0 _ _)
      | (with_reducible exact ih1 _ _ _ _ _ _)
      | (with_reducible exact nat_trim.mono _ _)
      | (with_reducible exact LeO.refl _)
      | (with_reducible exact LeO.none _)
      | (with_reducible refine LeO.ite ?_ ?_)
      | (with_reducible refine LeO.bind ?_ (fun _ => ?_))
      | exact ih0 _ _
      | exact ih1 _ _ _ _ _ _
      | exact nat_trim.mono _ _
      | exact LeO.none _
      | refine LeO.ite ?_ ?_
      | refine LeO.bind ?_ (fun _ => ?_)
set_option maxHeartbeats 8000000 in
set_option maxRecDepth 100000 in
theorem nat_Add.calls (k : Nat) (P0_ : Nat → Prop) (A0 : Option Addr) (c0 : Nat) (l0 : List Int) (P1_ : Nat → Prop) (A1 : Option Addr) (c1 : Nat) (l1 : List Int) (r : List Int) (w : World) (hs0 : Kd.V (Kd.int .u32) 37 w w.heap.size (fun k_ => P0_ k_) (.slice A0 l0.length c0) l0) (hs1 : Kd.V (Kd.int .u32) 37 w w.heap.size (fun k_ => P1_ k_) (.slice A1 l1.length c1) l1) (h : nat_Add.f k l0 l1 = some r) :
    Calls Try.prog 20 #[.slice A0 l0.length c0, .slice A1 l1.length c1] w fun e w' => ∃ v0_ : Value, e = .returned (v0_) ∧ Kd.V (Kd.int .u32) 37 w' w.heap.size (fun k_ => ((P0_ k_ ∨ P1_ k_) ∨ w.heap.size ≤ k_)) v0_ r ∧ Below w.heap.size w w' := by
  have HO0 := A0_ (show Kd.V (Kd.int .u32) 37 w w.heap.size (fun k_ => ((P0_ k_ ∨ P1_ k_) ∨ w.heap.size ≤ k_)) (.slice A0 l0.length c0) l0 from Kd.V_mono hs0 (fun k_ hk => .inl (.inl hk)))
  have HO1 := A0_ (show Kd.V (Kd.int .u32) 37 w w.heap.size (fun k_ => ((P0_ k_ ∨ P1_ k_) ∨ w.heap.size ≤ k_)) (.slice A1 l1.length c1) l1 from Kd.V_mono hs1 (fun k_ hk => .inl (.inr hk)))
  have HB := A0_ (Below.refl w.heap.size w)
  have H : (if (l0.length : Int) < (l1.length : Int) then (nat_Add.j0 k l1 l0) else (nat_Add.j0 k l0 l1)) = some r := h
  clear h
  have HC3 := A0_ H
  clear H
  go_enter Try.func20, Try.ntmps20
  go_upto_if 13 with (fail)
  go_cut [0, 1] (fun v0 v1 wc => ∃ (kq : Nat) (x0_2 : List Int) (x1_2 : List Int), Aside0 (nat_Add.j0 kq x0_2 x1_2 = some r) ∧ Aside0 (kq ≤ k) ∧ Aside0 (Kd.V (Kd.int .u32) 37 wc w.heap.size (fun k_ => ((P0_ k_ ∨ P1_ k_) ∨ w.heap.size ≤ k_)) v0 x0_2) ∧ Aside0 (Kd.V (Kd.int .u32) 37 wc w.heap.size (fun k_ => ((P0_ k_ ∨ P1_ k_) ∨ w.heap.size ≤ k_)) v1 x1_2) ∧ Aside0 (Below w.heap.size w wc))
  case first =>
    have H := HC3.out
    clear HC3
    by_cases c4 : (l0.length : Int) < (l1.length : Int)
    · rw [if_pos c4] at H
      have c4b0 : decide ((l0.length : Int) < (l1.length : Int)) = true := decide_eq_true c4
      have c4b1 : decide (l0.length < l1.length) = true := decide_eq_true (Int.ofNat_lt.mp c4)
      clear c4
      (first | rw [c4b0] | (simp only [i64_w, i32_w]; rw [c4b0]) | rw [c4b1] | skip)
      have H' := A0_ H
      clear H
      go_wp2
      go_meet
      case rel => exact ⟨_, (l1), (l0), H', ⟨by first | omega | exact Nat.le_refl _⟩, ⟨mvV HO1.out⟩, ⟨mvV HO0.out⟩, ⟨bl_⟩⟩
    · rw [if_neg c4] at H
      have c4b0 : decide ((l0.length : Int) < (l1.length : Int)) = false := decide_eq_false c4
      have c4b1 : decide (l0.length < l1.length) = false := decide_eq_false (fun h => c4 (Int.ofNat_lt.mpr h))
      clear c4
      (first | rw [c4b0] | (simp only [i64_w, i32_w]; rw [c4b0]) | rw [c4b1] | skip)
      have H' := A0_ H
      clear H
      go_wp2
      go_meet
      case rel => exact ⟨_, (l0), (l1), H', ⟨by first | omega | exact Nat.le_refl _⟩, ⟨mvV HO0.out⟩, ⟨mvV HO1.out⟩, ⟨bl_⟩⟩
  case rest =>
    clear HC3
    (try clear c1); (try clear c2); (try clear p2); (try clear c4); (try clear c4b0); (try clear c4b1)
    obtain ⟨kq, x0_2, x1_2, HA, HJ2, HO_0, HO_1, HB⟩ := hcut
    cases kq with
    | zero => exact absurd HA.out (by simp [nat_Add.j0])
    | succ kj2 =>
      have H := HA.out
      clear HA
      simp only [nat_Add.j0] at H
      obtain ⟨ji5, hji5⟩ : ∃ j_ : Int, (wrap64 ((x0_2.length : Int) + 1)) = j_ := ⟨_, rfl⟩
      (first | rw [hji5] at H | simp only [hji5] at H)
      have hji5w : (IntKind.i64.wrap ((x0_2.length : Int) + 1)) = ji5 := (i64_w _).trans hji5
      by_cases c6 : 0 ≤ (ji5)
      case neg => rw [if_neg c6] at H; exact absurd H (by simp)
      rw [if_pos c6] at H
      have c6b0 := eq_true c6
      have c6b1 : decide (0 ≤ (ji5)) = true := decide_eq_true c6
      clear c6
      by_cases c7 : (ji5 : Int).toNat ≤ 70368744177664
      case neg => rw [if_neg c7] at H; exact absurd H (by simp)
      rw [if_pos c7] at H
      have c7b0 := eq_true c7
      have c7b1 : decide ((ji5 : Int).toNat ≤ 70368744177664) = true := decide_eq_true c7
      clear c7
      obtain ⟨y273, hy273⟩ : ∃ y_ : List Int, y_ = (List.replicate (ji5 : Int).toNat 0) := ⟨_, rfl⟩
      replace H : (nat_Add.l0 kj2 x0_2 x1_2 y273 0 (x0_2.length : Int) 0) = some r := by first | (rw [hy273]; with_reducible exact H) | (rw [hy273]; exact H) | exact H
      have Ny273 := A0_ hy273
      clear hy273
      have H' := A0_ H
      clear H
      obtain ⟨Ao8, co8, eo8⟩ := Kd.V_slice HO_0.out
      subst eo8
      go_wp2_with (first | ((with_reducible refine gate_dst (N := 19) rfl ?_); refine Kd.R_make (Kd.int .u32) _ 37 rfl (N := 19) rfl 22 _ _ rfl ji5 rfl rfl Try.underlying22 (.int .u32 0) 4 info37 rfl (by decide) (by omega) 0 (ok := fun _ => True) (okp := fun _ => True) rfl (fun _ hk => hk) trivial od_ (Nat.le_trans (Nat.mul_le_mul_right _ (od_ : ji5.toNat ≤ 70368744177664)) (by omega)) (Below.refl _ _) (Nat.le_refl _) ?_; intro v274 w9 ho10 hb hg_ hnew_; clear hg_ hnew_; (first | rw [← Ny273.out] at ho10 | (simp only [Int.reduceToNat] at ho10; rw [← Ny273.out] at ho10)); have n0_ := A0_ (Kd.V_elder' (mvV HO_0.out) (Kd.R_base ho10) hb); have n1_ := A0_ (Kd.V_elder' (mvV HO_1.out) (Kd.R_base ho10) hb); have n2_ := A0_ (Kd.R_lower (Kd.R_newM (M := fun k_ => (w.heap.size ≤ k_)) ho10 (below_size bl_) (fun k_ h_ => h_)) (below_size bl_)); have n3_ := A0_ (below_step bl_ hb); clear HO_0; clear HO_1; clear HB; have HO_0 := n0_; have HO_1 := n1_; have HO275 := n2_; have HB := n3_; clear n0_ n1_ n2_ n3_; clear hb ho10))
      go_loopg [6, 22] kj2 (fun kq v6 v22 w' => ∃ (x5_2 : List Int) (x6_2 : Int) (x22_2 : Int), v6 = .int .u32 x6_2 ∧ v22 = .int .i64 x22_2 ∧ Aside0 (nat_Add.l0 kq x0_2 x1_2 x5_2 x6_2 (x0_2.length : Int) x22_2 = some r) ∧ Aside0 (kq ≤ kj2) ∧ Aside0 (Kd.V (Kd.int .u32) 37 w' w.heap.size (fun k_ => ((P0_ k_ ∨ P1_ k_) ∨ w.heap.size ≤ k_) ∧ some k_ ≠ (v274 : Value).ownBlock) (.slice Ao8 x0_2.length co8) x0_2) ∧ Aside0 (Kd.V (Kd.int .u32) 37 w' w.heap.size (fun k_ => ((P0_ k_ ∨ P1_ k_) ∨ w.heap.size ≤ k_) ∧ some k_ ≠ (v274 : Value).ownBlock) u1 x1_2) ∧ Aside0 (Kd.R (Kd.int .u32) 37 w' w.heap.size (fun k_ => (w.heap.size ≤ k_)) v274 x5_2) ∧ Aside0 (Below w.heap.size w w'))
      case atStart => exact ⟨(y273), (0), (0), rs_, rs_, H', ⟨Nat.le_refl _⟩, ⟨mvV HO_0.out⟩, ⟨mvV HO_1.out⟩, ⟨mvR (Kd.R_mono HO275.out (fun _ hk => hk.1))⟩, ⟨bl_⟩⟩
      case round =>
        clear H'
        (try clear c1); (try clear c2); (try clear p2); (try clear c4); (try clear c4b0); (try clear c4b1); (try clear c6); (try clear c6b0); (try clear c6b1); (try clear p6); (try clear c7); (try clear c7b0); (try clear c7b1); (try clear p2)
        obtain ⟨x5_2, x6_2, x22_2, rfl, rfl, HA, HK2, HO_0, HO_1, HO_5, HB⟩ := hrel
        cases gk with
        | zero => exact absurd HA.out (by simp [nat_Add.l0])
        | succ k2 =>
          have H := HA.out
          clear HA
          simp only [nat_Add.l0] at H
          by_cases c11 : x22_2 < (x0_2.length : Int)
          · rw [if_pos c11] at H
            have c11b0 : decide (x22_2 < (x0_2.length : Int)) = true := decide_eq_true c11
            clear c11
            by_cases c12 : x22_2 < (x1_2.length : Int)
            · rw [if_pos c12] at H
              have c12b0 : decide (x22_2 < (x1_2.length : Int)) = true := decide_eq_true c12
              clear c12
              by_cases c13 : 0 ≤ x22_2
              case neg => rw [if_neg c13] at H; exact absurd H (by simp)
              rw [if_pos c13] at H
              have c13b0 : decide (0 ≤ x22_2) = true := decide_eq_true c13
              clear c13
              by_cases c14 : x22_2 < (x0_2.length : Int)
              case neg => rw [if_neg c14] at H; exact absurd H (by simp)
              rw [if_pos c14] at H
              have c14b0 : decide (x22_2 < (x0_2.length : Int)) = true := decide_eq_true c14
              clear c14
              replace H := Option.bind_eq_some_iff.mp H
              obtain ⟨⟨t278, t279⟩, A150, H⟩ := H
              (try dsimp only at H)
              have A15 := A0_ A150
              clear A150
              by_cases c16 : x22_2 < (x5_2.length : Int)
              case neg => rw [if_neg c16] at H; exact absurd H (by simp)
              rw [if_pos c16] at H
              have c16b0 : decide (x22_2 < (x5_2.length : Int)) = true := decide_eq_true c16
              clear c16
              obtain ⟨y280, hy280⟩ : ∃ y_ : List Int, y_ = (x5_2.set (x22_2 : Int).toNat t278) := ⟨_, rfl⟩
              replace H : (nat_Add.l0 k2 x0_2 x1_2 y280 t279 (x0_2.length : Int) (wrap64 (x22_2 + 1))) = some r := by first | (rw [hy280]; with_reducible exact H) | (rw [hy280]; exact H) | exact H
              have Ny280 := A0_ hy280
              clear hy280
              have H' := A0_ H
              clear H
              obtain ⟨Ao18, co18, eo18⟩ := Kd.V_slice HO_1.out
              subst eo18
              have p276 : 0 ≤ (x22_2 : Int) := od_
              have q276 : x22_2 < (x1_2.length : Int) := od_
              obtain ⟨ad276, e276, hx276_0⟩ := Kd.at_int (Kd.V_reads' HO_1.out).2.2 x22_2 p276 q276
              cases e276
              replace p276 := eq_true p276
              replace q276 := eq_true q276
              have p277 : 0 ≤ (x22_2 : Int) := od_
              have q277 : x22_2 < (x0_2.length : Int) := od_
              obtain ⟨ad277, e277, hx277_0⟩ := Kd.at_int (Kd.V_reads' HO_0.out).2.2 x22_2 p277 q277
              cases e277
              replace p277 := eq_true p277
              replace q277 := eq_true q277
              go_wp2_with (first | ((with_reducible refine gate_callee (f := 42) rfl ?_); refine goesM_ (some 42) Try.func42 #[.int .u32 (rd x0_2 x22_2), .int .u32 (rd x1_2 x22_2), .int .u32 x6_2] rfl ?_; (with_reducible refine (bits_Add32.calls (rd x0_2 x22_2) (rd x1_2 x22_2) x6_2 t278 t279 _ A15.out).mono ?_); rintro e w' ⟨rfl, ⟨nd, rfl⟩⟩; refine ⟨_, rfl, ?_⟩; (try (rw [drewN_self wr]; generalize hq_ : World.drewN wr _ = wr; have n0_ : Aside0 (Kd.V (Kd.int .u32) 37 wr w.heap.size (fun k_ => ((P0_ k_ ∨ P1_ k_) ∨ w.heap.size ≤ k_) ∧ some k_ ≠ (v274 : Value).ownBlock) (.slice (some ad277) x0_2.length co8) x0_2) := ⟨by rw [← hq_]; exact (mvV HO_0.out)⟩; have n1_ : Aside0 (Kd.V (Kd.int .u32) 37 wr w.heap.size (fun k_ => ((P0_ k_ ∨ P1_ k_) ∨ w.heap.size ≤ k_) ∧ some k_ ≠ (v274 : Value).ownBlock) (.slice (some ad276) x1_2.length co18) x1_2) := ⟨by rw [← hq_]; exact (mvV HO_1.out)⟩; have n2_ : Aside0 (Kd.R (Kd.int .u32) 37 wr w.heap.size (fun k_ => (w.heap.size ≤ k_)) v274 x5_2) := ⟨by rw [← hq_]; exact (mvR HO_5.out)⟩; have n3_ : Aside0 (Below w.heap.size w wr) := ⟨by rw [← hq_]; exact bl_⟩; clear HO_0 HO_1 HO_5 HB hq_; have HO_0 := n0_; have HO_1 := n1_; have HO_5 := n2_; have HB := n3_; clear n0_ n1_ n2_ n3_)); have p17 : 0 ≤ (x22_2 : Int) := od_; have q17 : (x22_2 : Int) < ((x5_2.length : Int) : Int) := od_; obtain ⟨go17, co17, eo17, gb17, gl17, cl17, HG17⟩ := Kd.R_form HO_5.out (by omega); (first | cases eo17 | (injection eo17 with ea_ en_ ec_; (first | subst ea_ | (injection ea_ with ea_; subst ea_)); subst ec_; clear en_)); have GB17 := A0_ gb17; have GG17 := A0_ HG17; clear gb17 gl17 HG17; obtain ⟨hx17_0, hf17_0⟩ := Kd.R_celln 0 HO_5.out (x22_2 : Int) p17 q17; replace p17 := eq_true p17; replace q17 := eq_true q17; obtain ⟨hy19_, hz19_⟩ := Kd.R_celln 0 HO_5.out (x22_2 : Int) od_ od_; have HP19 := Kd.R_putg HO_5.out (x22_2 : Int) t278) | ((with_reducible refine gate_store (t := 37) (p := 45) rfl ?_); refine store_event (t := 37) (p := 45) (v := ?vo_w20) (w1 := (wr.setCell ⟨go17, (x22_2 : Int).toNat, none⟩ (.int .u32 t278))) ?hg ?ho ?hn ?hr ?_; (case ho => rfl); (case hg => rfl); (case hn => rfl); (case hr => first | (go_simp; done) | (go_simp; rfl)); intro w20 hw; have hg : wr.grownBy w20 (some go17) := (by rw [hw]; exact HP19.2); have hp_ : Kd.R (Kd.int .u32) 37 w20 w.heap.size (fun k_ => (w.heap.size ≤ k_)) (.slice (some ⟨go17, 0, none⟩) x5_2.length co17) y280 := (by rw [hw, Ny280.out]; exact HP19.1); clear HP19; have n0_ := A0_ (Kd.V_afterv (v := (.slice (some ⟨go17, 0, none⟩) x5_2.length co17)) (v1 := (.slice (some ⟨go17, 0, none⟩) x5_2.length co17)) (ok := (fun k_ => ((P0_ k_ ∨ P1_ k_) ∨ w.heap.size ≤ k_))) (mvV HO_0.out) hg (.inl rfl)); have n1_ := A0_ (Kd.V_afterv (v := (.slice (some ⟨go17, 0, none⟩) x5_2.length co17)) (v1 := (.slice (some ⟨go17, 0, none⟩) x5_2.length co17)) (ok := (fun k_ => ((P0_ k_ ∨ P1_ k_) ∨ w.heap.size ≤ k_))) (mvV HO_1.out) hg (.inl rfl)); have n2_ := A0_ (hp_); have n3_ := A0_ ((by rw [hw]; exact below_set (HB.out) GB17.out : Below w.heap.size w w20)); clear HO_0; clear HO_1; clear HO_5; clear HB; have HO_0 := n0_; have HO_1 := n1_; have HO_5 := n2_; have HB := n3_; clear n0_ n1_ n2_ n3_; clear hg hw hp_))
              go_roundg k2
              case measure => have := HJ2.out; have := HK2.out; omega
              case rel => exact ⟨(y280), (t279), (wrap64 (x22_2 + 1)), rs_, rs_, H', ⟨by have := HJ2.out; have := HK2.out; omega⟩, ⟨mvV HO_0.out⟩, ⟨mvV HO_1.out⟩, ⟨mvR HO_5.out⟩, ⟨bl_⟩⟩
            · rw [if_neg c12] at H
              have c12b0 : decide (x22_2 < (x1_2.length : Int)) = false := decide_eq_false c12
              clear c12
              by_cases c21 : 0 ≤ x22_2
              case neg => rw [if_neg c21] at H; exact absurd H (by simp)
              rw [if_pos c21] at H
              have c21b0 : decide (0 ≤ x22_2) = true := decide_eq_true c21
              clear c21
              by_cases c22 : x22_2 < (x0_2.length : Int)
              case neg => rw [if_neg c22] at H; exact absurd H (by simp)
              rw [if_pos c22] at H
              have c22b0 : decide (x22_2 < (x0_2.length : Int)) = true := decide_eq_true c22
              clear c22
              replace H := Option.bind_eq_some_iff.mp H
              obtain ⟨⟨t282, t283⟩, A230, H⟩ := H
              (try dsimp only at H)
              have A23 := A0_ A230
              clear A230
              by_cases c24 : x22_2 < (x5_2.length : Int)
              case neg => rw [if_neg c24] at H; exact absurd H (by simp)
              rw [if_pos c24] at H
              have c24b0 : decide (x22_2 < (x5_2.length : Int)) = true := decide_eq_true c24
              clear c24
              obtain ⟨y284, hy284⟩ : ∃ y_ : List Int, y_ = (x5_2.set (x22_2 : Int).toNat t282) := ⟨_, rfl⟩
              replace H : (nat_Add.l0 k2 x0_2 x1_2 y284 t283 (x0_2.length : Int) (wrap64 (x22_2 + 1))) = some r := by first | (rw [hy284]; with_reducible exact H) | (rw [hy284]; exact H) | exact H
              have Ny284 := A0_ hy284
              clear hy284
              have H' := A0_ H
              clear H
              obtain ⟨Ao26, co26, eo26⟩ := Kd.V_slice HO_1.out
              subst eo26
              have p281 : 0 ≤ (x22_2 : Int) := od_
              have q281 : x22_2 < (x0_2.length : Int) := od_
              obtain ⟨ad281, e281, hx281_0⟩ := Kd.at_int (Kd.V_reads' HO_0.out).2.2 x22_2 p281 q281
              cases e281
              replace p281 := eq_true p281
              replace q281 := eq_true q281
              go_wp2_with (first | ((with_reducible refine gate_callee (f := 42) rfl ?_); refine goesM_ (some 42) Try.func42 #[.int .u32 (rd x0_2 x22_2), .int .u32 0, .int .u32 x6_2] rfl ?_; (with_reducible refine (bits_Add32.calls (rd x0_2 x22_2) 0 x6_2 t282 t283 _ A23.out).mono ?_); rintro e w' ⟨rfl, ⟨nd, rfl⟩⟩; refine ⟨_, rfl, ?_⟩; (try (rw [drewN_self wr]; generalize hq_ : World.drewN wr _ = wr; have n0_ : Aside0 (Kd.V (Kd.int .u32) 37 wr w.heap.size (fun k_ => ((P0_ k_ ∨ P1_ k_) ∨ w.heap.size ≤ k_) ∧ some k_ ≠ (v274 : Value).ownBlock) (.slice (some ad281) x0_2.length co8) x0_2) := ⟨by rw [← hq_]; exact (mvV HO_0.out)⟩; have n1_ : Aside0 (Kd.V (Kd.int .u32) 37 wr w.heap.size (fun k_ => ((P0_ k_ ∨ P1_ k_) ∨ w.heap.size ≤ k_) ∧ some k_ ≠ (v274 : Value).ownBlock) (.slice Ao26 x1_2.length co26) x1_2) := ⟨by rw [← hq_]; exact (mvV HO_1.out)⟩; have n2_ : Aside0 (Kd.R (Kd.int .u32) 37 wr w.heap.size (fun k_ => (w.heap.size ≤ k_)) v274 x5_2) := ⟨by rw [← hq_]; exact (mvR HO_5.out)⟩; have n3_ : Aside0 (Below w.heap.size w wr) := ⟨by rw [← hq_]; exact bl_⟩; clear HO_0 HO_1 HO_5 HB hq_; have HO_0 := n0_; have HO_1 := n1_; have HO_5 := n2_; have HB := n3_; clear n0_ n1_ n2_ n3_)); have p25 : 0 ≤ (x22_2 : Int) := od_; have q25 : (x22_2 : Int) < ((x5_2.length : Int) : Int) := od_; obtain ⟨go25, co25, eo25, gb25, gl25, cl25, HG25⟩ := Kd.R_form HO_5.out (by omega); (first | cases eo25 | (injection eo25 with ea_ en_ ec_; (first | subst ea_ | (injection ea_ with ea_; subst ea_)); subst ec_; clear en_)); have GB25 := A0_ gb25; have GG25 := A0_ HG25; clear gb25 gl25 HG25; obtain ⟨hx25_0, hf25_0⟩ := Kd.R_celln 0 HO_5.out (x22_2 : Int) p25 q25; replace p25 := eq_true p25; replace q25 := eq_true q25; obtain ⟨hy27_, hz27_⟩ := Kd.R_celln 0 HO_5.out (x22_2 : Int) od_ od_; have HP27 := Kd.R_putg HO_5.out (x22_2 : Int) t282) | ((with_reducible refine gate_store (t := 37) (p := 45) rfl ?_); refine store_event (t := 37) (p := 45) (v := ?vo_w28) (w1 := (wr.setCell ⟨go25, (x22_2 : Int).toNat, none⟩ (.int .u32 t282))) ?hg ?ho ?hn ?hr ?_; (case ho => rfl); (case hg => rfl); (case hn => rfl); (case hr => first | (go_simp; done) | (go_simp; rfl)); intro w28 hw; have hg : wr.grownBy w28 (some go25) := (by rw [hw]; exact HP27.2); have hp_ : Kd.R (Kd.int .u32) 37 w28 w.heap.size (fun k_ => (w.heap.size ≤ k_)) (.slice (some ⟨go25, 0, none⟩) x5_2.length co25) y284 := (by rw [hw, Ny284.out]; exact HP27.1); clear HP27; have n0_ := A0_ (Kd.V_afterv (v := (.slice (some ⟨go25, 0, none⟩) x5_2.length co25)) (v1 := (.slice (some ⟨go25, 0, none⟩) x5_2.length co25)) (ok := (fun k_ => ((P0_ k_ ∨ P1_ k_) ∨ w.heap.size ≤ k_))) (mvV HO_0.out) hg (.inl rfl)); have n1_ := A0_ (Kd.V_afterv (v := (.slice (some ⟨go25, 0, none⟩) x5_2.length co25)) (v1 := (.slice (some ⟨go25, 0, none⟩) x5_2.length co25)) (ok := (fun k_ => ((P0_ k_ ∨ P1_ k_) ∨ w.heap.size ≤ k_))) (mvV HO_1.out) hg (.inl rfl)); have n2_ := A0_ (hp_); have n3_ := A0_ ((by rw [hw]; exact below_set (HB.out) GB25.out : Below w.heap.size w w28)); clear HO_0; clear HO_1; clear HO_5; clear HB; have HO_0 := n0_; have HO_1 := n1_; have HO_5 := n2_; have HB := n3_; clear n0_ n1_ n2_ n3_; clear hg hw hp_))
              go_roundg k2
              case measure => have := HJ2.out; have := HK2.out; omega
              case rel => exact ⟨(y284), (t283), (wrap64 (x22_2 + 1)), rs_, rs_, H', ⟨by have := HJ2.out; have := HK2.out; omega⟩, ⟨mvV HO_0.out⟩, ⟨mvV HO_1.out⟩, ⟨mvR HO_5.out⟩, ⟨bl_⟩⟩
          · rw [if_neg c11] at H
            have c11b0 : decide (x22_2 < (x0_2.length : Int)) = false := decide_eq_false c11
            clear c11
            by_cases c29 : 0 ≤ (x0_2.length : Int)
            case neg => rw [if_neg c29] at H; exact absurd H (by simp)
            rw [if_pos c29] at H
            have c29b0 : decide (0 ≤ (x0_2.length : Int)) = true := decide_eq_true c29
            have c29b1 : decide (0 ≤ x0_2.length) = true := decide_eq_true (by omega)
            clear c29
            by_cases c30 : (x0_2.length : Int) < (x5_2.length : Int)
            case neg => rw [if_neg c30] at H; exact absurd H (by simp)
            rw [if_pos c30] at H
            have c30b0 : decide ((x0_2.length : Int) < (x5_2.length : Int)) = true := decide_eq_true c30
            have c30b1 : decide (x0_2.length < x5_2.length) = true := decide_eq_true (Int.ofNat_lt.mp c30)
            clear c30
            obtain ⟨y285, hy285⟩ : ∃ y_ : List Int, y_ = (x5_2.set ((x0_2.length : Int) : Int).toNat x6_2) := ⟨_, rfl⟩
            replace H : ((nat_trim.f k2 y285).bind fun t286 => (some t286)) = some r := by first | (rw [hy285]; with_reducible exact H) | (rw [hy285]; exact H) | exact H
            have Ny285 := A0_ hy285
            clear hy285
            replace H := Option.bind_eq_some_iff.mp H
            obtain ⟨t286, A320, H⟩ := H
            (try dsimp only at H)
            have A32 := A0_ A320
            clear A320
            obtain rfl := Option.some.inj H
            have p31 : 0 ≤ ((x0_2.length : Int) : Int) := od_
            have q31 : ((x0_2.length : Int) : Int) < ((x5_2.length : Int) : Int) := od_
            obtain ⟨go31, co31, eo31, gb31, gl31, cl31, HG31⟩ := Kd.R_form HO_5.out (by omega)
            (first | cases eo31 | (injection eo31 with ea_ en_ ec_; (first | subst ea_ | (injection ea_ with ea_; subst ea_)); subst ec_; clear en_))
            have GB31 := A0_ gb31
            have GG31 := A0_ HG31
            clear gb31 gl31 HG31
            obtain ⟨hx31_0, hf31_0⟩ := Kd.R_celln 0 HO_5.out ((x0_2.length : Int) : Int) p31 q31
            (try simp only [Go.IntWalk.toNatUp] at hx31_0 hf31_0)
            replace p31 := eq_true p31
            replace q31 := eq_true q31
            have HP33 := Kd.R_putg HO_5.out ((x0_2.length : Int) : Int) x6_2
            go_wp2_with (first | ((with_reducible refine gate_store (t := 37) (p := 51) rfl ?_); refine store_event (t := 37) (p := 51) (v := ?vo_w34) (w1 := (wr.setCell ⟨go31, ((x0_2.length : Int) : Int).toNat, none⟩ (.int .u32 x6_2))) ?hg ?ho ?hn ?hr ?_; (case ho => rfl); (case hg => rfl); (case hn => rfl); (case hr => first | (go_simp; done) | (go_simp; rfl)); intro w34 hw; have hg : wr.grownBy w34 (some go31) := (by rw [hw]; exact HP33.2); have hp_ : Kd.R (Kd.int .u32) 37 w34 w.heap.size (fun k_ => (w.heap.size ≤ k_)) (.slice (some ⟨go31, 0, none⟩) x5_2.length co31) y285 := (by rw [hw, Ny285.out]; exact HP33.1); clear HP33; have n0_ := A0_ (Kd.V_afterv (v := (.slice (some ⟨go31, 0, none⟩) x5_2.length co31)) (v1 := (.slice (some ⟨go31, 0, none⟩) x5_2.length co31)) (ok := (fun k_ => ((P0_ k_ ∨ P1_ k_) ∨ w.heap.size ≤ k_))) (mvV HO_0.out) hg (.inl rfl)); have n1_ := A0_ (Kd.V_afterv (v := (.slice (some ⟨go31, 0, none⟩) x5_2.length co31)) (v1 := (.slice (some ⟨go31, 0, none⟩) x5_2.length co31)) (ok := (fun k_ => ((P0_ k_ ∨ P1_ k_) ∨ w.heap.size ≤ k_))) (mvV HO_1.out) hg (.inl rfl)); have n2_ := A0_ (hp_); have n3_ := A0_ ((by rw [hw]; exact below_set (HB.out) GB31.out : Below w.heap.size w w34)); clear HO_0; clear HO_1; clear HO_5; clear HB; have HO_0 := n0_; have HO_1 := n1_; have HO_5 := n2_; have HB := n3_; clear n0_ n1_ n2_ n3_; clear hg hw hp_) | ((with_reducible refine gate_callee (f := 40) rfl ?_); refine goesM_ (some 53) Try.func40 #[.slice (some ⟨go31, 0, none⟩) y285.length co31] rfl ?_ (by (try simp only [List.map_toArray, List.map_cons, List.map_nil]); first | done | (rw [show y285.length = x5_2.length from (Kd.R_reads' HO_5.out).1.symm] <;> rfl) | rfl | (simp only [List.length_drop, List.length_take]; rfl)); (with_reducible refine (nat_trim.calls k2 (fun k_ => some k_ = (.slice (some ⟨go31, 0, none⟩) x5_2.length co31 : Value).ownBlock) _ _ y285 t286 _ ?side1 A32.out).mono ?_); (case side1 => rw [show y285.length = x5_2.length from (Kd.R_reads' HO_5.out).1.symm]; exact Kd.R_V (Kd.R_tight rfl (HO_5.out))); rintro e w35 ⟨v287, rfl, ho0, hb⟩; refine ⟨_, rfl, ?_⟩; have n0_ := A0_ (Kd.V_below (mvV HO_0.out) hb); have n1_ := A0_ (Kd.V_below (mvV HO_1.out) hb); have n2_ := A0_ (Kd.R_below (mvR HO_5.out) hb); have n3_ := A0_ (Kd.V_lower (Kd.V_mono (ok' := fun k_ => ((P0_ k_ ∨ P1_ k_) ∨ w.heap.size ≤ k_)) ho0 (fun k_ hk_ => Or.elim hk_ (fun hs_ => (.inr (((HO_5.out).1 k_ hs_.symm)))) (fun hn_ => (.inr (Nat.le_trans (below_size bl_) hn_))))) (below_size bl_)); have n4_ := A0_ (below_step bl_ hb); clear HO_0; clear HO_1; clear HO_5; clear HB; have HO_0 := n0_; have HO_1 := n1_; have HO_5 := n2_; have HO288 := n3_; have HB := n4_; clear n0_ n1_ n2_ n3_ n4_; (try clear hb); (try clear hb2); (try clear hk); (try clear hi); (try clear ho0)))
            go_ret
            exact ⟨_, by first | rfl | (simp [errW_none, errW_some] <;> rfl) | (simp only [← hji5]; first | rfl | (simp [errW_none, errW_some] <;> rfl)) | (simp [*, errW_none, errW_some] <;> rfl), mvV HO288.out, bl_⟩

end Go.Proofs.Ytohkjfdcmiiehaa.P
