/- What the Go functions of these names come to, as plain Lean functions, and the walks that show it. Written for this claim by a turned copy of the print program; Lean checks it. -/
import Derived.Test.YtohkjfdcmiiehaaP0
import Derived.Test.YtohkjfdcmiiehaaP3
import Derived.Test.YtohkjfdcmiiehaaP8
namespace Go.Proofs.Ytohkjfdcmiiehaa.P
open Go.RowKit Go.Proofs.YtohkjfdcmiiehaaW.PrintWords Go.Proofs.YtohkjfdcmiiehaaW.PrintLast Go.Proofs.YtohkjfdcmiiehaaW.PrintMore
attribute [local go_sem] max2_int min2_int max_two min_two max_three min_three max_four min_four   -- for this text's walks alone
set_option linter.unusedVariables false
set_option linter.unusedSimpArgs false

/-! ### quo_give: function 48 -/
def quo_give.l0 : Nat → List Int → List Int → Int → List Int → Int → Int → Option (List Int)
  | 0, _, _, _, _, _, _ => none
  | k + 1, x0, x1, x4, x7, x8, x9 => if x9 < x8 then (if 0 ≤ x9 then (if x9 < (x7.length : Int) then (if x9 < (x0.length : Int) then ((bits_Add32.f (rd x0 x9) (rd x7 x9) x4).bind fun bt186 => (quo_give.l0 k (x0.set (x9 : Int).toNat bt186.1) x1 bt186.2 x7 x8 (wrap64 (x9 + 1)))) else (none)) else (none)) else (none)) else (if 0 ≤ (x1.length : Int) then (if (x1.length : Int) < (x0.length : Int) then (some (x0.set ((x1.length : Int) : Int).toNat (((rd x0 (x1.length : Int)) + x4) % 4294967296))) else (none)) else (none))
def quo_give.f (k : Nat) (l0 : List Int) (l1 : List Int) : Option (List Int) := quo_give.l0 k l0 l1 0 l1 (l1.length : Int) 0
theorem quo_give.mono_l : ∀ k, (∀ y0 y1 y2 y3 y4 y5, LeO (quo_give.l0 k y0 y1 y2 y3 y4 y5) (quo_give.l0 (k + 1) y0 y1 y2 y3 y4 y5))
  | 0 => fun _ _ _ _ _ _ r h => by simp [quo_give.l0] at h
  | k + 1 => by
    have ih0 := quo_give.mono_l k
    · intro y0 y1 y2 y3 y4 y5
      unfold quo_give.l0
      repeat' first
      | (with_reducible exact ih0 _ _ _ _ _ _)
      | (with_reducible exact LeO.refl _)
      | (with_reducible exact LeO.none _)
      | (with_reducible refine LeO.ite ?_ ?_)
      | (with_reducible refine LeO.bind ?_ (fun _ => ?_))
      | exact ih0 _ _ _ _ _ _
      | exact LeO.none _
      | refine LeO.ite ?_ ?_
      | refine LeO.bind ?_ (fun _ => ?_)
theorem quo_give.mono : ∀ a0 a1 k, LeO (quo_give.f k a0 a1) (quo_give.f (k + 1) a0 a1) := by
  intro a0 a1 k
  have ih0 := quo_give.mono_l k
  unfold quo_give.f
  repeat' first
      | (with_reducible exact ih0 _ _ _ _ _ _)
      | (with_reducible exact LeO.refl _)
      | (with_reducible exact LeO.none _)
      | (with_reducible refine LeO.ite ?_ ?_)
      | (with_reducible refine LeO.bind ?_ (fun _ => ?_))
      | exact ih0 _ _ _ _ _ _
      | exact LeO.none _
      | refine LeO.ite ?_ ?_
      | refine LeO.bind ?_ (fun _ => ?_)
set_option maxHeartbeats 8000000 in
set_option maxRecDepth 100000 in
theorem quo_give.calls (k : Nat) (P0_ : Nat → Prop) (u9000_ : Value) (l0 : List Int) (A1 : Option Addr) (c1 : Nat) (l1 : List Int) (r : List Int) (w0 w : World) (hB : Below w0.heap.size w0 w) (ho0 : Kd.R (Kd.int .u32) 37 w w0.heap.size P0_ u9000_ l0) (hr1 : ∀ W_, Kept w W_ (fun k_ => P0_ k_) → Kd.C (Kd.int .u32) W_ A1 l1.length l1) (hc1 : l1.length ≤ c1) (h : quo_give.f k l0 l1 = some r) :
    Calls Try.prog 48 #[u9000_, .slice A1 l1.length c1] w fun e w' => e = .returned (.tuple #[]) ∧ Kd.R (Kd.int .u32) 37 w' w0.heap.size (fun k_ => (P0_ k_ ∨ w.heap.size ≤ k_)) u9000_ r ∧ Below w0.heap.size w0 w' ∧ Kept w w' (fun k_ => P0_ k_) := by
  have HO0 := A0_ (show Kd.R (Kd.int .u32) 37 w w0.heap.size (fun k_ => (P0_ k_ ∨ w.heap.size ≤ k_)) u9000_ l0 from Kd.R_mono ho0 (fun k_ hk => (.inl hk)))
  have HR1 := A0_ hr1
  have HC1 := A0_ hc1
  clear hr1 hc1
  have HK := A0_ (Kept.refl w (fun k_ => P0_ k_))
  have HW0 := A0_ hB.size
  have HB := A0_ hB
  clear hB
  have H : (quo_give.l0 k l0 l1 0 l1 (l1.length : Int) 0) = some r := h
  clear h
  have H' := A0_ H
  clear H
  go_enter Try.func48, Try.ntmps48
  go_wp2
  go_loopg [4, 9] k (fun kq v4 v9 w' => ∃ (x0_1 : List Int) (x4_1 : Int) (x9_1 : Int), v4 = .int .u32 x4_1 ∧ v9 = .int .i64 x9_1 ∧ Aside0 (quo_give.l0 kq x0_1 l1 x4_1 l1 (l1.length : Int) x9_1 = some r) ∧ Aside0 (kq ≤ k) ∧ Aside0 (Kd.R (Kd.int .u32) 37 w' w0.heap.size (fun k_ => (P0_ k_ ∨ w.heap.size ≤ k_)) u9000_ x0_1) ∧ Aside0 (Kept w w' (fun k_ => P0_ k_)) ∧ Aside0 (Below w0.heap.size w0 w'))
  case atStart => exact ⟨(l0), (0), (0), rs_, rs_, H', ⟨Nat.le_refl _⟩, ⟨mvR HO0.out⟩, ⟨kl_⟩, ⟨bl_⟩⟩
  case round =>
    clear H'
    (try clear c1); (try clear p2)
    obtain ⟨x0_1, x4_1, x9_1, rfl, rfl, HA, HK1, HO_0, HK, HB⟩ := hrel
    cases gk with
    | zero => exact absurd HA.out (by simp [quo_give.l0])
    | succ k1 =>
      have H := HA.out
      clear HA
      simp only [quo_give.l0] at H
      by_cases c3 : x9_1 < (l1.length : Int)
      · rw [if_pos c3] at H
        have c3b0 : decide (x9_1 < (l1.length : Int)) = true := decide_eq_true c3
        clear c3
        by_cases c4 : 0 ≤ x9_1
        case neg => rw [if_neg c4] at H; exact absurd H (by simp)
        rw [if_pos c4] at H
        have c4b0 : decide (0 ≤ x9_1) = true := decide_eq_true c4
        clear c4
        by_cases c5 : x9_1 < (l1.length : Int)
        case neg => rw [if_neg c5] at H; exact absurd H (by simp)
        rw [if_pos c5] at H
        have c5b0 : decide (x9_1 < (l1.length : Int)) = true := decide_eq_true c5
        clear c5
        by_cases c6 : x9_1 < (x0_1.length : Int)
        case neg => rw [if_neg c6] at H; exact absurd H (by simp)
        rw [if_pos c6] at H
        have c6b0 : decide (x9_1 < (x0_1.length : Int)) = true := decide_eq_true c6
        clear c6
        replace H := Option.bind_eq_some_iff.mp H
        obtain ⟨⟨t186, t187⟩, A70, H⟩ := H
        (try dsimp only at H)
        have A7 := A0_ A70
        clear A70
        obtain ⟨y188, hy188⟩ : ∃ y_ : List Int, y_ = (x0_1.set (x9_1 : Int).toNat t186) := ⟨_, rfl⟩
        replace H : (quo_give.l0 k1 y188 l1 t187 l1 (l1.length : Int) (wrap64 (x9_1 + 1))) = some r := by first | (rw [hy188]; with_reducible exact H) | (rw [hy188]; exact H) | exact H
        have Ny188 := A0_ hy188
        clear hy188
        have H' := A0_ H
        clear H
        have p184 : 0 ≤ (x9_1 : Int) := od_
        have q184 : x9_1 < (l1.length : Int) := od_
        obtain ⟨ad184, e184, hx184_0⟩ := Kd.at_int (Kd.C_kept_now HR1.out HK.out) x9_1 p184 q184
        cases e184
        replace p184 := eq_true p184
        replace q184 := eq_true q184
        obtain ⟨Ao9, co9, eo9⟩ := Kd.R_slice HO_0.out
        subst eo9
        have p185 : 0 ≤ (x9_1 : Int) := od_
        have q185 : x9_1 < (x0_1.length : Int) := od_
        obtain ⟨ad185, e185, hx185_0⟩ := Kd.at_int (Kd.R_reads' HO_0.out).2.2 x9_1 p185 q185
        cases e185
        replace p185 := eq_true p185
        replace q185 := eq_true q185
        go_wp2_with (first | ((with_reducible refine gate_callee (f := 42) rfl ?_); refine goesM_ (some 23) Try.func42 #[.int .u32 (rd x0_1 x9_1), .int .u32 (rd l1 x9_1), .int .u32 x4_1] rfl ?_; (with_reducible refine (bits_Add32.calls (rd x0_1 x9_1) (rd l1 x9_1) x4_1 t186 t187 _ A7.out).mono ?_); rintro e w' ⟨rfl, ⟨nd, rfl⟩⟩; refine ⟨_, rfl, ?_⟩; (try (rw [drewN_self wr]; generalize hq_ : World.drewN wr _ = wr; have n0_ : Aside0 (Kd.R (Kd.int .u32) 37 wr w0.heap.size (fun k_ => (P0_ k_ ∨ w.heap.size ≤ k_)) (.slice (some ad185) x0_1.length co9) x0_1) := ⟨by rw [← hq_]; exact (mvR HO_0.out)⟩; have n1_ : Aside0 (Kept w wr (fun k_ => P0_ k_)) := ⟨by rw [← hq_]; exact kl_⟩; have n2_ : Aside0 (Below w0.heap.size w0 wr) := ⟨by rw [← hq_]; exact bl_⟩; clear HO_0 HK HB hq_; have HO_0 := n0_; have HK := n1_; have HB := n2_; clear n0_ n1_ n2_)); have p8 : 0 ≤ (x9_1 : Int) := od_; have q8 : (x9_1 : Int) < ((x0_1.length : Int) : Int) := od_; obtain ⟨go8, co8, eo8, gb8, gl8, cl8, HG8⟩ := Kd.R_form HO_0.out (by omega); (first | cases eo8 | (injection eo8 with ea_ en_ ec_; (first | subst ea_ | (injection ea_ with ea_; subst ea_)); subst ec_; clear en_)); have GB8 := A0_ gb8; have GG8 := A0_ HG8; clear gb8 gl8 HG8; have HMgo8 := A0_ (show (P0_ go8 ∨ w.heap.size ≤ go8) from (HO_0.out.1 _ rfl)); (first | simp only [add_plain] at hx185_0 | skip); obtain ⟨hx8_0, hf8_0⟩ := Kd.R_celln 0 HO_0.out (x9_1 : Int) p8 q8; replace p8 := eq_true p8; replace q8 := eq_true q8; obtain ⟨hy10_, hz10_⟩ := Kd.R_celln 0 HO_0.out (x9_1 : Int) od_ od_; have HP10 := Kd.R_putg HO_0.out (x9_1 : Int) t186) | ((with_reducible refine gate_store (t := 37) (p := 26) rfl ?_); refine store_event (t := 37) (p := 26) (v := ?vo_w11) (w1 := (wr.setCell ⟨go8, (x9_1 : Int).toNat, none⟩ (.int .u32 t186))) ?hg ?ho ?hn ?hr ?_; (case ho => rfl); (case hg => rfl); (case hn => rfl); (case hr => first | (go_simp; done) | (go_simp; rfl)); intro w11 hw; have hg : wr.grownBy w11 (some go8) := (by rw [hw]; exact HP10.2); have hp_ : Kd.R (Kd.int .u32) 37 w11 w0.heap.size (fun k_ => (P0_ k_ ∨ w.heap.size ≤ k_)) (.slice (some ⟨go8, 0, none⟩) x0_1.length co9) y188 := (by rw [hw, Ny188.out]; exact HP10.1); clear HP10; have n0_ := A0_ (hp_); have n1_ := A0_ ((by rw [hw]; exact below_set (HB.out) GB8.out : Below w0.heap.size w0 w11)); have n2_ := A0_ (Kept.of_grown (S := (fun k_ => P0_ k_)) hg kl_ (fun k_ e_ => (HO_0.out.1 k_ e_))); clear HO_0; clear HB; clear HK; have HO_0 := n0_; have HB := n1_; have HK := n2_; clear n0_ n1_ n2_; clear hg hw hp_))
        go_roundg k1
        case measure => have := HK1.out; omega
        case rel => exact ⟨(y188), (t187), (wrap64 (x9_1 + 1)), rs_, rs_, H', ⟨by have := HK1.out; omega⟩, ⟨mvR HO_0.out⟩, ⟨kl_⟩, ⟨bl_⟩⟩
      · rw [if_neg c3] at H
        have c3b0 : decide (x9_1 < (l1.length : Int)) = false := decide_eq_false c3
        clear c3
        by_cases c12 : 0 ≤ (l1.length : Int)
        case neg => rw [if_neg c12] at H; exact absurd H (by simp)
        rw [if_pos c12] at H
        have c12b0 : decide (0 ≤ (l1.length : Int)) = true := decide_eq_true c12
        have c12b1 : decide (0 ≤ l1.length) = true := decide_eq_true (by omega)
        clear c12
        by_cases c13 : (l1.length : Int) < (x0_1.length : Int)
        case neg => rw [if_neg c13] at H; exact absurd H (by simp)
        rw [if_pos c13] at H
        have c13b0 : decide ((l1.length : Int) < (x0_1.length : Int)) = true := decide_eq_true c13
        have c13b1 : decide (l1.length < x0_1.length) = true := decide_eq_true (Int.ofNat_lt.mp c13)
        clear c13
        obtain ⟨y190, hy190⟩ : ∃ y_ : List Int, y_ = (x0_1.set ((l1.length : Int) : Int).toNat (((rd x0_1 (l1.length : Int)) + x4_1) % 4294967296)) := ⟨_, rfl⟩
        replace H : (some y190) = some r := by first | (rw [hy190]; with_reducible exact H) | (rw [hy190]; exact H) | exact H
        have Ny190 := A0_ hy190
        clear hy190
        obtain rfl := Option.some.inj H
        obtain ⟨Ao15, co15, eo15⟩ := Kd.R_slice HO_0.out
        subst eo15
        have p189 : 0 ≤ ((l1.length : Int) : Int) := od_
        have q189 : (l1.length : Int) < (x0_1.length : Int) := od_
        obtain ⟨ad189, e189, hx189_0⟩ := Kd.at_int (Kd.R_reads' HO_0.out).2.2 (l1.length : Int) p189 q189
        cases e189
        (try simp only [Go.IntWalk.toNatUp] at hx189_0)
        replace p189 := eq_true p189
        replace q189 := eq_true q189
        have p14 : 0 ≤ ((l1.length : Int) : Int) := od_
        have q14 : ((l1.length : Int) : Int) < ((x0_1.length : Int) : Int) := od_
        obtain ⟨go14, co14, eo14, gb14, gl14, cl14, HG14⟩ := Kd.R_form HO_0.out (by omega)
        (first | cases eo14 | (injection eo14 with ea_ en_ ec_; (first | subst ea_ | (injection ea_ with ea_; subst ea_)); subst ec_; clear en_))
        have GB14 := A0_ gb14
        have GG14 := A0_ HG14
        clear gb14 gl14 HG14
        have HMgo14 := A0_ (show (P0_ go14 ∨ w.heap.size ≤ go14) from (HO_0.out.1 _ rfl))
        (first | simp only [add_plain] at hx189_0 | skip)
        obtain ⟨hx14_0, hf14_0⟩ := Kd.R_celln 0 HO_0.out ((l1.length : Int) : Int) p14 q14
        (try simp only [Go.IntWalk.toNatUp] at hx14_0 hf14_0)
        replace p14 := eq_true p14
        replace q14 := eq_true q14
        have HP16 := Kd.R_putg HO_0.out ((l1.length : Int) : Int) (((rd x0_1 (l1.length : Int)) + x4_1) % 4294967296)
        go_wp2_with (first | ((with_reducible refine gate_store (t := 37) (p := 35) rfl ?_); refine store_event (t := 37) (p := 35) (v := ?vo_w17) (w1 := (wr.setCell ⟨go14, ((l1.length : Int) : Int).toNat, none⟩ (.int .u32 (((rd x0_1 (l1.length : Int)) + x4_1) % 4294967296)))) ?hg ?ho ?hn ?hr ?_; (case ho => rfl); (case hg => rfl); (case hn => rfl); (case hr => first | (go_simp; done) | (go_simp; rfl)); intro w17 hw; have hg : wr.grownBy w17 (some go14) := (by rw [hw]; exact HP16.2); have hp_ : Kd.R (Kd.int .u32) 37 w17 w0.heap.size (fun k_ => (P0_ k_ ∨ w.heap.size ≤ k_)) (.slice (some ⟨go14, 0, none⟩) x0_1.length co15) y190 := (by rw [hw, Ny190.out]; exact HP16.1); clear HP16; have n0_ := A0_ (hp_); have n1_ := A0_ ((by rw [hw]; exact below_set (HB.out) GB14.out : Below w0.heap.size w0 w17)); have n2_ := A0_ (Kept.of_grown (S := (fun k_ => P0_ k_)) hg kl_ (fun k_ e_ => (HO_0.out.1 k_ e_))); clear HO_0; clear HB; clear HK; have HO_0 := n0_; have HB := n1_; have HK := n2_; clear n0_ n1_ n2_; clear hg hw hp_))
        first | go_end0 | ((try simp only [Exit.inBlock, Exit.then]); refine bodyPost_ret (results_none rfl _ _ _) rfl ?_)
        exact ⟨by first | rfl | (simp [errW_none, errW_some] <;> rfl) | (simp [*, errW_none, errW_some] <;> rfl), mvR HO_0.out, bl_, kl_⟩

set_option maxHeartbeats 8000000 in
set_option maxRecDepth 100000 in
theorem quo_give_seg.calls {pre_ post_ : List Int} {o_ N_ cap_ : Nat} (k : Nat) (P0_ : Nat → Prop) (u9000_ : Value) (l0 : List Int) (A1 : Option Addr) (c1 : Nat) (l1 : List Int) (r : List Int) (w0 w : World) (hB : Below w0.heap.size w0 w) (ho0 : SR pre_ post_ o_ N_ cap_ 37 w w0.heap.size P0_ u9000_ l0) (hr1 : ∀ W_, Kept w W_ (fun k_ => P0_ k_) → Kd.C (Kd.int .u32) W_ A1 l1.length l1) (hc1 : l1.length ≤ c1) (h : quo_give.f k l0 l1 = some r) :
    Calls Try.prog 48 #[u9000_, .slice A1 l1.length c1] w fun e w' => e = .returned (.tuple #[]) ∧ SR pre_ post_ o_ N_ cap_ 37 w' w0.heap.size (fun k_ => (P0_ k_ ∨ w.heap.size ≤ k_)) u9000_ r ∧ Below w0.heap.size w0 w' ∧ Kept w w' (fun k_ => P0_ k_) := by
  have HO0 := A0_ (show SR pre_ post_ o_ N_ cap_ 37 w w0.heap.size (fun k_ => (P0_ k_ ∨ w.heap.size ≤ k_)) u9000_ l0 from SR_mono ho0 (fun k_ hk => (.inl hk)))
  have HR1 := A0_ hr1
  have HC1 := A0_ hc1
  clear hr1 hc1
  have HK := A0_ (Kept.refl w (fun k_ => P0_ k_))
  have HW0 := A0_ hB.size
  have HB := A0_ hB
  clear hB
  have H : (quo_give.l0 k l0 l1 0 l1 (l1.length : Int) 0) = some r := h
  clear h
  have H' := A0_ H
  clear H
  go_enter Try.func48, Try.ntmps48
  go_wp2
  go_loopg [4, 9] k (fun kq v4 v9 w' => ∃ (x0_1 : List Int) (x4_1 : Int) (x9_1 : Int), v4 = .int .u32 x4_1 ∧ v9 = .int .i64 x9_1 ∧ Aside0 (quo_give.l0 kq x0_1 l1 x4_1 l1 (l1.length : Int) x9_1 = some r) ∧ Aside0 (kq ≤ k) ∧ Aside0 (SR pre_ post_ o_ N_ cap_ 37 w' w0.heap.size (fun k_ => (P0_ k_ ∨ w.heap.size ≤ k_)) u9000_ x0_1) ∧ Aside0 (Kept w w' (fun k_ => P0_ k_)) ∧ Aside0 (Below w0.heap.size w0 w'))
  case atStart => exact ⟨(l0), (0), (0), rs_, rs_, H', ⟨Nat.le_refl _⟩, ⟨by (with_reducible repeat (first | apply SR_alloc | apply SR_drewN | apply SR_drew)); exact HO0.out⟩, ⟨kl_⟩, ⟨bl_⟩⟩
  case round =>
    clear H'
    (try clear c1); (try clear p2)
    obtain ⟨x0_1, x4_1, x9_1, rfl, rfl, HA, HK1, HO_0, HK, HB⟩ := hrel
    cases gk with
    | zero => exact absurd HA.out (by simp [quo_give.l0])
    | succ k1 =>
      have H := HA.out
      clear HA
      simp only [quo_give.l0] at H
      by_cases c3 : x9_1 < (l1.length : Int)
      · rw [if_pos c3] at H
        have c3b0 : decide (x9_1 < (l1.length : Int)) = true := decide_eq_true c3
        clear c3
        by_cases c4 : 0 ≤ x9_1
        case neg => rw [if_neg c4] at H; exact absurd H (by simp)
        rw [if_pos c4] at H
        have c4b0 : decide (0 ≤ x9_1) = true := decide_eq_true c4
        clear c4
        by_cases c5 : x9_1 < (l1.length : Int)
        case neg => rw [if_neg c5] at H; exact absurd H (by simp)
        rw [if_pos c5] at H
        have c5b0 : decide (x9_1 < (l1.length : Int)) = true := decide_eq_true c5
        clear c5
        by_cases c6 : x9_1 < (x0_1.length : Int)
        case neg => rw [if_neg c6] at H; exact absurd H (by simp)
        rw [if_pos c6] at H
        have c6b0 : decide (x9_1 < (x0_1.length : Int)) = true := decide_eq_true c6
        clear c6
        replace H := Option.bind_eq_some_iff.mp H
        obtain ⟨⟨t186, t187⟩, A70, H⟩ := H
        (try dsimp only at H)
        have A7 := A0_ A70
        clear A70
        obtain ⟨y188, hy188⟩ : ∃ y_ : List Int, y_ = (x0_1.set (x9_1 : Int).toNat t186) := ⟨_, rfl⟩
        replace H : (quo_give.l0 k1 y188 l1 t187 l1 (l1.length : Int) (wrap64 (x9_1 + 1))) = some r := by first | (rw [hy188]; with_reducible exact H) | (rw [hy188]; exact H) | exact H
        have Ny188 := A0_ hy188
        clear hy188
        have H' := A0_ H
        clear H
        have p184 : 0 ≤ (x9_1 : Int) := od_
        have q184 : x9_1 < (l1.length : Int) := od_
        obtain ⟨ad184, e184, hx184_0⟩ := Kd.at_int (Kd.C_kept_now HR1.out HK.out) x9_1 p184 q184
        cases e184
        replace p184 := eq_true p184
        replace q184 := eq_true q184
        obtain ⟨Ao9, co9, eo9⟩ := SR_slice HO_0.out
        subst eo9
        have p185 : 0 ≤ (x9_1 : Int) := od_
        have q185 : x9_1 < (x0_1.length : Int) := od_
        obtain ⟨ad185, e185, hx185_0⟩ := Kd.at_int (SR_reads' HO_0.out).2.2 x9_1 p185 q185
        cases e185
        replace p185 := eq_true p185
        replace q185 := eq_true q185
        go_wp2_with (first | ((with_reducible refine gate_callee (f := 42) rfl ?_); refine goesM_ (some 23) Try.func42 #[.int .u32 (rd x0_1 x9_1), .int .u32 (rd l1 x9_1), .int .u32 x4_1] rfl ?_; (with_reducible refine (bits_Add32.calls (rd x0_1 x9_1) (rd l1 x9_1) x4_1 t186 t187 _ A7.out).mono ?_); rintro e w' ⟨rfl, ⟨nd, rfl⟩⟩; refine ⟨_, rfl, ?_⟩; (try (rw [drewN_self wr]; generalize hq_ : World.drewN wr _ = wr; have n0_ : Aside0 (SR pre_ post_ o_ N_ cap_ 37 wr w0.heap.size (fun k_ => (P0_ k_ ∨ w.heap.size ≤ k_)) (.slice (some ad185) x0_1.length co9) x0_1) := ⟨by rw [← hq_]; exact (by (with_reducible repeat (first | apply SR_alloc | apply SR_drewN | apply SR_drew)); exact HO_0.out)⟩; have n1_ : Aside0 (Kept w wr (fun k_ => P0_ k_)) := ⟨by rw [← hq_]; exact kl_⟩; have n2_ : Aside0 (Below w0.heap.size w0 wr) := ⟨by rw [← hq_]; exact bl_⟩; clear HO_0 HK HB hq_; have HO_0 := n0_; have HK := n1_; have HB := n2_; clear n0_ n1_ n2_)); have p8 : 0 ≤ (x9_1 : Int) := od_; have q8 : (x9_1 : Int) < ((x0_1.length : Int) : Int) := od_; obtain ⟨go8, co8, eo8, gb8, gl8, cl8, HG8⟩ := SR_form HO_0.out (by omega); (first | cases eo8 | (injection eo8 with ea_ en_ ec_; (first | subst ea_ | (injection ea_ with ea_; subst ea_)); subst ec_; clear en_)); have GB8 := A0_ gb8; have GG8 := A0_ HG8; clear gb8 gl8 HG8; have HMgo8 := A0_ (show (P0_ go8 ∨ w.heap.size ≤ go8) from (SR_ok HO_0.out _ rfl)); (first | simp only [add_plain] at hx185_0 | skip); obtain ⟨hx8_0, hf8_0⟩ := SR_celln HO_0.out (x9_1 : Int) p8 q8; replace p8 := eq_true p8; replace q8 := eq_true q8; obtain ⟨hy10_, hz10_⟩ := SR_celln HO_0.out (x9_1 : Int) od_ od_; have HP10 := SR_putg HO_0.out (x9_1 : Int) od_ od_ t186) | ((with_reducible refine gate_store (t := 37) (p := 26) rfl ?_); refine store_event (t := 37) (p := 26) (v := ?vo_w11) (w1 := (wr.setCell ⟨go8, o_ + (x9_1 : Int).toNat, none⟩ (.int .u32 t186))) ?hg ?ho ?hn ?hr ?_; (case ho => rfl); (case hg => rfl); (case hn => rfl); (case hr => first | (go_simp; done) | (go_simp; rfl)); intro w11 hw; have hg : wr.grownBy w11 (some go8) := (by rw [hw]; exact HP10.2); have hp_ : SR pre_ post_ o_ N_ cap_ 37 w11 w0.heap.size (fun k_ => (P0_ k_ ∨ w.heap.size ≤ k_)) (.slice (some ⟨go8, o_, none⟩) x0_1.length co9) y188 := (by rw [hw, Ny188.out]; exact HP10.1); clear HP10; have n0_ := A0_ (hp_); have n1_ := A0_ ((by rw [hw]; exact below_set (HB.out) GB8.out : Below w0.heap.size w0 w11)); have n2_ := A0_ (Kept.of_grown (S := (fun k_ => P0_ k_)) hg kl_ (fun k_ e_ => (SR_ok HO_0.out k_ e_))); clear HO_0; clear HB; clear HK; have HO_0 := n0_; have HB := n1_; have HK := n2_; clear n0_ n1_ n2_; clear hg hw hp_))
        go_roundg k1
        case measure => have := HK1.out; omega
        case rel => exact ⟨(y188), (t187), (wrap64 (x9_1 + 1)), rs_, rs_, H', ⟨by have := HK1.out; omega⟩, ⟨by (with_reducible repeat (first | apply SR_alloc | apply SR_drewN | apply SR_drew)); exact HO_0.out⟩, ⟨kl_⟩, ⟨bl_⟩⟩
      · rw [if_neg c3] at H
        have c3b0 : decide (x9_1 < (l1.length : Int)) = false := decide_eq_false c3
        clear c3
        by_cases c12 : 0 ≤ (l1.length : Int)
        case neg => rw [if_neg c12] at H; exact absurd H (by simp)
        rw [if_pos c12] at H
        have c12b0 : decide (0 ≤ (l1.length : Int)) = true := decide_eq_true c12
        have c12b1 : decide (0 ≤ l1.length) = true := decide_eq_true (by omega)
        clear c12
        by_cases c13 : (l1.length : Int) < (x0_1.length : Int)
        case neg => rw [if_neg c13] at H; exact absurd H (by simp)
        rw [if_pos c13] at H
        have c13b0 : decide ((l1.length : Int) < (x0_1.length : Int)) = true := decide_eq_true c13
        have c13b1 : decide (l1.length < x0_1.length) = true := decide_eq_true (Int.ofNat_lt.mp c13)
        clear c13
        obtain ⟨y190, hy190⟩ : ∃ y_ : List Int, y_ = (x0_1.set ((l1.length : Int) : Int).toNat (((rd x0_1 (l1.length : Int)) + x4_1) % 4294967296)) := ⟨_, rfl⟩
        replace H : (some y190) = some r := by first | (rw [hy190]; with_reducible exact H) | (rw [hy190]; exact H) | exact H
        have Ny190 := A0_ hy190
        clear hy190
        obtain rfl := Option.some.inj H
        obtain ⟨Ao15, co15, eo15⟩ := SR_slice HO_0.out
        subst eo15
        have p189 : 0 ≤ ((l1.length : Int) : Int) := od_
        have q189 : (l1.length : Int) < (x0_1.length : Int) := od_
        obtain ⟨ad189, e189, hx189_0⟩ := Kd.at_int (SR_reads' HO_0.out).2.2 (l1.length : Int) p189 q189
        cases e189
        (try simp only [Go.IntWalk.toNatUp] at hx189_0)
        replace p189 := eq_true p189
        replace q189 := eq_true q189
        have p14 : 0 ≤ ((l1.length : Int) : Int) := od_
        have q14 : ((l1.length : Int) : Int) < ((x0_1.length : Int) : Int) := od_
        obtain ⟨go14, co14, eo14, gb14, gl14, cl14, HG14⟩ := SR_form HO_0.out (by omega)
        (first | cases eo14 | (injection eo14 with ea_ en_ ec_; (first | subst ea_ | (injection ea_ with ea_; subst ea_)); subst ec_; clear en_))
        have GB14 := A0_ gb14
        have GG14 := A0_ HG14
        clear gb14 gl14 HG14
        have HMgo14 := A0_ (show (P0_ go14 ∨ w.heap.size ≤ go14) from (SR_ok HO_0.out _ rfl))
        (first | simp only [add_plain] at hx189_0 | skip)
        obtain ⟨hx14_0, hf14_0⟩ := SR_celln HO_0.out ((l1.length : Int) : Int) p14 q14
        (try simp only [Go.IntWalk.toNatUp] at hx14_0 hf14_0)
        replace p14 := eq_true p14
        replace q14 := eq_true q14
        have HP16 := SR_putg HO_0.out ((l1.length : Int) : Int) od_ od_ (((rd x0_1 (l1.length : Int)) + x4_1) % 4294967296)
        go_wp2_with (first | ((with_reducible refine gate_store (t := 37) (p := 35) rfl ?_); refine store_event (t := 37) (p := 35) (v := ?vo_w17) (w1 := (wr.setCell ⟨go14, o_ + ((l1.length : Int) : Int).toNat, none⟩ (.int .u32 (((rd x0_1 (l1.length : Int)) + x4_1) % 4294967296)))) ?hg ?ho ?hn ?hr ?_; (case ho => rfl); (case hg => rfl); (case hn => rfl); (case hr => first | (go_simp; done) | (go_simp; rfl)); intro w17 hw; have hg : wr.grownBy w17 (some go14) := (by rw [hw]; exact HP16.2); have hp_ : SR pre_ post_ o_ N_ cap_ 37 w17 w0.heap.size (fun k_ => (P0_ k_ ∨ w.heap.size ≤ k_)) (.slice (some ⟨go14, o_, none⟩) x0_1.length co15) y190 := (by rw [hw, Ny190.out]; exact HP16.1); clear HP16; have n0_ := A0_ (hp_); have n1_ := A0_ ((by rw [hw]; exact below_set (HB.out) GB14.out : Below w0.heap.size w0 w17)); have n2_ := A0_ (Kept.of_grown (S := (fun k_ => P0_ k_)) hg kl_ (fun k_ e_ => (SR_ok HO_0.out k_ e_))); clear HO_0; clear HB; clear HK; have HO_0 := n0_; have HB := n1_; have HK := n2_; clear n0_ n1_ n2_; clear hg hw hp_))
        first | go_end0 | ((try simp only [Exit.inBlock, Exit.then]); refine bodyPost_ret (results_none rfl _ _ _) rfl ?_)
        exact ⟨by first | rfl | (simp [errW_none, errW_some] <;> rfl) | (simp [*, errW_none, errW_some] <;> rfl), by (with_reducible repeat (first | apply SR_alloc | apply SR_drewN | apply SR_drew)); exact HO_0.out, bl_, kl_⟩

/-! ### quo_give at a stretch of a row -/
def quo_give_at.f (k : Nat) (l0 : List Int) (lo hi : Int) (l1 : List Int) : Option (List Int) :=
  if 0 ≤ lo ∧ lo < hi ∧ hi ≤ (l0.length : Int) then (quo_give.f k ((l0.take hi.toNat).drop lo.toNat) l1).bind fun bt => some (l0.take lo.toNat ++ (bt ++ l0.drop hi.toNat)) else none
theorem quo_give_at.mono : ∀ a0 a1 a2 a3 k, LeO (quo_give_at.f k a0 a1 a2 a3) (quo_give_at.f (k + 1) a0 a1 a2 a3) := by
  intro a0 a1 a2 a3 k
  unfold quo_give_at.f
  exact LeO.ite (LeO.bind (quo_give.mono _ _ _) (fun _ => LeO.refl _)) (LeO.refl _)
theorem quo_give_at.fits {k : Nat} {l0 : List Int} {lo hi : Int} {l1 : List Int} {r : List Int} (h : quo_give_at.f k l0 lo hi l1 = some r) : 0 ≤ lo ∧ lo < hi ∧ hi ≤ (l0.length : Int) := by
  unfold quo_give_at.f at h
  by_cases hc : 0 ≤ lo ∧ lo < hi ∧ hi ≤ (l0.length : Int)
  · exact hc
  · rw [if_neg hc] at h; cases h
theorem quo_give_at.calls (k : Nat) (P0_ : Nat → Prop) (u9000_ : Value) (l0 : List Int) (lo hi : Int) (A1 : Option Addr) (c1 : Nat) (l1 : List Int) (r2 : List Int) (w0 w : World) (hB : Below w0.heap.size w0 w) (ho0 : Kd.R (Kd.int .u32) 37 w w0.heap.size P0_ u9000_ l0) (hr1 : ∀ W_, Kept w W_ (fun k_ => P0_ k_) → Kd.C (Kd.int .u32) W_ A1 l1.length l1) (hc1 : l1.length ≤ c1) (h : quo_give_at.f k l0 lo hi l1 = some r2) (V_ : Value) (hV : CutOf u9000_ lo hi V_) :
    Calls Try.prog 48 #[V_, .slice A1 l1.length c1] w fun e w' => e = .returned (.tuple #[]) ∧ Kd.R (Kd.int .u32) 37 w' w0.heap.size (fun k_ => (P0_ k_ ∨ w.heap.size ≤ k_)) u9000_ r2 ∧ Below w0.heap.size w0 w' ∧ Kept w w' (fun k_ => P0_ k_) := by
  obtain ⟨f0, f1, f2⟩ := quo_give_at.fits h
  unfold quo_give_at.f at h
  rw [if_pos ⟨f0, f1, f2⟩] at h
  obtain ⟨bt, hb, hr⟩ := Option.bind_eq_some_iff.mp h
  obtain ⟨g, cap, hu, hV', hS⟩ := SR_of (n := 0) (cap := 0) ho0 hV f0 f1 f2
  simp only [Option.some.injEq] at hr
  obtain rfl := hr
  refine (quo_give_seg.calls k P0_ V_ _ A1 c1 l1 bt w0 w hB hS hr1 hc1 hb).mono ?_
  rintro e w' ⟨rfl, hs, hbl, hk⟩
  refine ⟨rfl, ?_, hbl, hk⟩
  obtain ⟨ho_, g', c', hv, hc, hR⟩ := hs
  rw [hV'] at hv
  injection hv with e1 e2 e3
  injection e1 with e1
  injection e1 with e1
  subst e1
  rw [hu]
  exact hR


end Go.Proofs.Ytohkjfdcmiiehaa.P
