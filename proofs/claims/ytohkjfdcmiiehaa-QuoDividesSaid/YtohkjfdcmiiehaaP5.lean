/- What the Go functions of these names come to, as plain Lean functions, and the walks that show it. Written for this claim by a turned copy of the print program; Lean checks it. -/
import Derived.Test.YtohkjfdcmiiehaaP0
namespace Go.Proofs.Ytohkjfdcmiiehaa.P
open Go.RowKit Go.Proofs.YtohkjfdcmiiehaaW.PrintWords Go.Proofs.YtohkjfdcmiiehaaW.PrintLast Go.Proofs.YtohkjfdcmiiehaaW.PrintMore
attribute [local go_sem] max2_int min2_int max_two min_two max_three min_three max_four min_four   -- for this text's walks alone
set_option linter.unusedVariables false
set_option linter.unusedSimpArgs false

/-! ### astrolaberef01_Trim: function 29 -/
def astrolaberef01_Trim.l0 : Nat → List Int → Int → Option (List Int)
  | 0, _, _ => none
  | k + 1, x0, x3 => if x3 > 0 then (if 0 ≤ (wrap64 (x3 - 1)) then (if (wrap64 (x3 - 1)) < (x0.length : Int) then (if (rd x0 (wrap64 (x3 - 1))) = 0 then (astrolaberef01_Trim.l0 k x0 (wrap64 (x3 - 1))) else (if 0 ≤ x3 then (if x3 ≤ (x0.length : Int) then (if ([] : List Int).length + (x0.take (x3 : Int).toNat).length < 35184372088832 then (some (([] : List Int) ++ (x0.take (x3 : Int).toNat))) else (none)) else (none)) else (none))) else (none)) else (none)) else (if 0 ≤ x3 then (if x3 ≤ (x0.length : Int) then (if ([] : List Int).length + (x0.take (x3 : Int).toNat).length < 35184372088832 then (some (([] : List Int) ++ (x0.take (x3 : Int).toNat))) else (none)) else (none)) else (none))
def astrolaberef01_Trim.f (k : Nat) (l0 : List Int) : Option (List Int) := astrolaberef01_Trim.l0 k l0 (l0.length : Int)
theorem astrolaberef01_Trim.mono_l : ∀ k, (∀ y0 y1, LeO (astrolaberef01_Trim.l0 k y0 y1) (astrolaberef01_Trim.l0 (k + 1) y0 y1))
  | 0 => fun _ _ r h => by simp [astrolaberef01_Trim.l0] at h
  | k + 1 => by
    have ih0 := astrolaberef01_Trim.mono_l k
    · intro y0 y1
      unfold astrolaberef01_Trim.l0
      repeat' first
      | (with_reducible exact ih0 _ _)
      | (with_reducible exact LeO.refl _)
      | (with_reducible exact LeO.none _)
      | (with_reducible refine LeO.ite ?_ ?_)
      | (with_reducible refine LeO.bind ?_ (fun _ => ?_))
      | exact ih0 _ _
      | exact LeO.none _
      | refine LeO.ite ?_ ?_
      | refine LeO.bind ?_ (fun _ => ?_)
theorem astrolaberef01_Trim.mono : ∀ a0 k, LeO (astrolaberef01_Trim.f k a0) (astrolaberef01_Trim.f (k + 1) a0) := by
  intro a0 k
  have ih0 := astrolaberef01_Trim.mono_l k
  unfold astrolaberef01_Trim.f
  repeat' first
      | (with_reducible exact ih0 _ _)
      | (with_reducible exact LeO.refl _)
      | (with_reducible exact LeO.none _)
      | (with_reducible refine LeO.ite ?_ ?_)
      | (with_reducible refine LeO.bind ?_ (fun _ => ?_))
      | exact ih0 _ _
      | exact LeO.none _
      | refine LeO.ite ?_ ?_
      | refine LeO.bind ?_ (fun _ => ?_)
set_option maxHeartbeats 8000000 in
set_option maxRecDepth 100000 in
theorem astrolaberef01_Trim.calls (k : Nat) (A0 : Option Addr) (c0 : Nat) (l0 : List Int) (r : List Int) (w : World) (hr0 : Kd.C (Kd.int .u32) w A0 l0.length l0) (hc0 : l0.length ≤ c0) (h : astrolaberef01_Trim.f k l0 = some r) :
    Calls Try.prog 29 #[.slice A0 l0.length c0] w fun e w' => ∃ v0_ : Value, e = .returned (v0_) ∧ Kd.R (Kd.int .u32) 37 w' w.heap.size (fun _ => True) v0_ r ∧ Below w.heap.size w w' := by
  have HR0 := A0_ hr0
  have HC0 := A0_ hc0
  clear hr0 hc0
  have HB := A0_ (Below.refl w.heap.size w)
  have H : (astrolaberef01_Trim.l0 k l0 (l0.length : Int)) = some r := h
  clear h
  have H' := A0_ H
  clear H
  go_enter Try.func29, Try.ntmps29
  go_wp2
  go_loopg [3] k (fun kq v3 w' => ∃ (x3_1 : Int), v3 = .int .i64 x3_1 ∧ Aside0 (astrolaberef01_Trim.l0 kq l0 x3_1 = some r) ∧ Aside0 (kq ≤ k) ∧ Aside0 (Below w.heap.size w w'))
  case atStart => exact ⟨((l0.length : Int)), rs_, H', ⟨Nat.le_refl _⟩, ⟨bl_⟩⟩
  case round =>
    clear H'
    obtain ⟨x3_1, rfl, HA, HK1, HB⟩ := hrel
    cases gk with
    | zero => exact absurd HA.out (by simp [astrolaberef01_Trim.l0])
    | succ k1 =>
      have H := HA.out
      clear HA
      simp only [astrolaberef01_Trim.l0] at H
      by_cases c2 : x3_1 > 0
      · rw [if_pos c2] at H
        have c2b0 : decide (0 < x3_1) = true := decide_eq_true c2
        clear c2
        obtain ⟨ji3, hji3⟩ : ∃ j_ : Int, (wrap64 (x3_1 - 1)) = j_ := ⟨_, rfl⟩
        (first | rw [hji3] at H | simp only [hji3] at H)
        have hji3w : (IntKind.i64.wrap (x3_1 - 1)) = ji3 := (i64_w _).trans hji3
        by_cases c4 : 0 ≤ (ji3)
        case neg => rw [if_neg c4] at H; exact absurd H (by simp)
        rw [if_pos c4] at H
        have c4b0 : decide (0 ≤ (ji3)) = true := decide_eq_true c4
        clear c4
        by_cases c5 : (ji3) < (l0.length : Int)
        case neg => rw [if_neg c5] at H; exact absurd H (by simp)
        rw [if_pos c5] at H
        have c5b0 : decide ((ji3) < (l0.length : Int)) = true := decide_eq_true c5
        clear c5
        by_cases c6 : (rd l0 (ji3)) = 0
        · rw [if_pos c6] at H
          have c6b0 : ((rd l0 (ji3)) == 0) = true := beq_iff_eq.mpr c6
          have c6b1 : ((rd l0 (ji3)) != 0) = false := bne_eq_false_iff_eq.mpr c6
          clear c6
          have H' := A0_ H
          clear H
          have p410 : 0 ≤ ((ji3) : Int) := od_
          have q410 : (ji3) < (l0.length : Int) := od_
          obtain ⟨ad410, e410, hx410_0⟩ := Kd.at_int HR0.out (ji3) p410 q410
          cases e410
          replace hx410_0 := (HB.out.cell (World.block_lt_of_cell? w _ hx410_0)).trans hx410_0
          replace p410 := eq_true p410
          replace q410 := eq_true q410
          go_wp2
          go_roundg k1
          case measure => have := HK1.out; omega
          case rel => exact ⟨(ji3), (by first | rfl | (simp; done) | (simp only [← hji3] <;> (first | rfl | simp)) | (simp [*]; done)), H', ⟨by have := HK1.out; omega⟩, ⟨bl_⟩⟩
        · rw [if_neg c6] at H
          have c6b0 : ((rd l0 (ji3)) == 0) = false := beq_eq_false_iff_ne.mpr c6
          have c6b1 : ((rd l0 (ji3)) != 0) = true := bne_iff_ne.mpr c6
          by_cases c7 : 0 ≤ x3_1
          case neg => rw [if_neg c7] at H; exact absurd H (by simp)
          rw [if_pos c7] at H
          have c7b0 := eq_true c7
          have c7b1 : decide (0 ≤ x3_1) = true := decide_eq_true c7
          clear c7
          by_cases c8 : x3_1 ≤ (l0.length : Int)
          case neg => rw [if_neg c8] at H; exact absurd H (by simp)
          rw [if_pos c8] at H
          have c8b0 := eq_true c8
          have c8b1 : decide (x3_1 ≤ (l0.length : Int)) = true := decide_eq_true c8
          clear c8
          by_cases c9 : ([] : List Int).length + (l0.take (x3_1 : Int).toNat).length < 35184372088832
          case neg => rw [if_neg c9] at H; exact absurd H (by simp)
          rw [if_pos c9] at H
          have LMc9 := A0_ c9
          clear c9
          obtain ⟨y412, hy412⟩ : ∃ y_ : List Int, y_ = (([] : List Int) ++ (l0.take (x3_1 : Int).toNat)) := ⟨_, rfl⟩
          replace H : (some y412) = some r := by first | (rw [hy412]; with_reducible exact H) | (rw [hy412]; exact H) | exact H
          have Ny412 := A0_ hy412
          clear hy412
          obtain rfl := Option.some.inj H
          have p410 : 0 ≤ ((ji3) : Int) := od_
          have q410 : (ji3) < (l0.length : Int) := od_
          obtain ⟨ad410, e410, hx410_0⟩ := Kd.at_int HR0.out (ji3) p410 q410
          cases e410
          replace hx410_0 := (HB.out.cell (World.block_lt_of_cell? w _ hx410_0)).trans hx410_0
          replace p410 := eq_true p410
          replace q410 := eq_true q410
          obtain ⟨i010, hi010, _, hsz10, _⟩ := info_parts info37
          obtain ⟨hcut10, hA10, hC10⟩ := print_take_of (P := Try.prog) (Value.int .u32) 0 22 37 .i64 Try.underlying22 hi010 hsz10 (some ad410) c0 l0 x3_1 od_ od_ HC0.out
          have HR411 := A0_ (Kd.C_of_reads (h1 := fun _ => rfl) (hA10 _ (Kd.reads_of_C HR0.out)))
          have HC411 := A0_ hC10
          clear hA10 hC10 hi010 hsz10
          go_wp2_with (first | ((with_reducible refine gate_builtin (b := .append) (xs := #[.tmp 19, .tmp 22]) rfl ?_); at_builtin; refine Kd.R_append_rows (Kd.int .u32) (w0 := w) w.heap.size rfl (.tmp 19) (.tmp 22) 22 37 (.int .u32 0) 4 rfl Try.underlying22 info37 rfl (by decide) (by omega) (.slice none 0 0) ([] : List Int) (l0.take (x3_1 : Int).toNat) _ _ _ (fun _ => True) (fun _ => False) rfl rfl ?aO ?aR (fun _ _ h => h) (fun _ h => h.elim) ?aF ?aB ?aS ?aL ?_; (case aR => first | ((refine Eq.mp (congrArg (fun n_ => Kd.C _ _ _ n_ _) (show (l0.take (x3_1 : Int).toNat).length = x3_1.toNat from (by rw [List.length_take]; have h_ : (x3_1 : Int) ≤ (l0.length : Int) := (by first | exact od_); omega))) ?_); exact mvC (Kd.C_below HR411.out HB.out)) | (rw [← show (l0.take (x3_1 : Int).toNat).length = x3_1.toNat from (by rw [List.length_take]; have h_ : (x3_1 : Int) ≤ (l0.length : Int) := (by first | exact od_); omega)]; exact mvC (Kd.C_below HR411.out HB.out)) | (exact mvC (Kd.C_below HR411.out HB.out))); (case aB => exact bl_); (case aF => exact (fun _ _ => trivial)); (case aO => exact ((Kd.R_nil _ _ _ _ (fun _ => True)))); (case aS => exact (below_size bl_)); (case aL => have := LMc9.out; have hlx_ := (show (l0.take (x3_1 : Int).toNat).length = x3_1.toNat from (by rw [List.length_take]; have h_ : (x3_1 : Int) ≤ (l0.length : Int) := (by first | exact od_); omega)); omega); intro v413 w11 ho hb hg hat; rw [← Ny412.out] at ho; have n0_ := A0_ (hb); have n1_ := A0_ (ho); clear HB; have HB := n0_; have HO414 := n1_; clear n0_ n1_; clear ho hb hg hat))
          go_ret
          exact ⟨_, by first | rfl | (simp [errW_none, errW_some] <;> rfl) | (simp only [← hji3]; first | rfl | (simp [errW_none, errW_some] <;> rfl)) | (simp [*, errW_none, errW_some] <;> rfl), mvR HO414.out, bl_⟩
      · rw [if_neg c2] at H
        have c2b0 : decide (0 < x3_1) = false := decide_eq_false c2
        clear c2
        by_cases c12 : 0 ≤ x3_1
        case neg => rw [if_neg c12] at H; exact absurd H (by simp)
        rw [if_pos c12] at H
        have c12b0 := eq_true c12
        have c12b1 : decide (0 ≤ x3_1) = true := decide_eq_true c12
        clear c12
        by_cases c13 : x3_1 ≤ (l0.length : Int)
        case neg => rw [if_neg c13] at H; exact absurd H (by simp)
        rw [if_pos c13] at H
        have c13b0 := eq_true c13
        have c13b1 : decide (x3_1 ≤ (l0.length : Int)) = true := decide_eq_true c13
        clear c13
        by_cases c14 : ([] : List Int).length + (l0.take (x3_1 : Int).toNat).length < 35184372088832
        case neg => rw [if_neg c14] at H; exact absurd H (by simp)
        rw [if_pos c14] at H
        have LMc14 := A0_ c14
        clear c14
        obtain ⟨y416, hy416⟩ : ∃ y_ : List Int, y_ = (([] : List Int) ++ (l0.take (x3_1 : Int).toNat)) := ⟨_, rfl⟩
        replace H : (some y416) = some r := by first | (rw [hy416]; with_reducible exact H) | (rw [hy416]; exact H) | exact H
        have Ny416 := A0_ hy416
        clear hy416
        obtain rfl := Option.some.inj H
        obtain ⟨i015, hi015, _, hsz15, _⟩ := info_parts info37
        obtain ⟨hcut15, hA15, hC15⟩ := print_take_of (P := Try.prog) (Value.int .u32) 0 22 37 .i64 Try.underlying22 hi015 hsz15 A0 c0 l0 x3_1 od_ od_ HC0.out
        have HR415 := A0_ (Kd.C_of_reads (h1 := fun _ => rfl) (hA15 _ (Kd.reads_of_C HR0.out)))
        have HC415 := A0_ hC15
        clear hA15 hC15 hi015 hsz15
        go_wp2_with (first | ((with_reducible refine gate_builtin (b := .append) (xs := #[.tmp 19, .tmp 22]) rfl ?_); at_builtin; refine Kd.R_append_rows (Kd.int .u32) (w0 := w) w.heap.size rfl (.tmp 19) (.tmp 22) 22 37 (.int .u32 0) 4 rfl Try.underlying22 info37 rfl (by decide) (by omega) (.slice none 0 0) ([] : List Int) (l0.take (x3_1 : Int).toNat) _ _ _ (fun _ => True) (fun _ => False) rfl rfl ?aO ?aR (fun _ _ h => h) (fun _ h => h.elim) ?aF ?aB ?aS ?aL ?_; (case aR => first | ((refine Eq.mp (congrArg (fun n_ => Kd.C _ _ _ n_ _) (show (l0.take (x3_1 : Int).toNat).length = x3_1.toNat from (by rw [List.length_take]; have h_ : (x3_1 : Int) ≤ (l0.length : Int) := (by first | exact od_); omega))) ?_); exact mvC (Kd.C_below HR415.out HB.out)) | (rw [← show (l0.take (x3_1 : Int).toNat).length = x3_1.toNat from (by rw [List.length_take]; have h_ : (x3_1 : Int) ≤ (l0.length : Int) := (by first | exact od_); omega)]; exact mvC (Kd.C_below HR415.out HB.out)) | (exact mvC (Kd.C_below HR415.out HB.out))); (case aB => exact bl_); (case aF => exact (fun _ _ => trivial)); (case aO => exact ((Kd.R_nil _ _ _ _ (fun _ => True)))); (case aS => exact (below_size bl_)); (case aL => have := LMc14.out; have hlx_ := (show (l0.take (x3_1 : Int).toNat).length = x3_1.toNat from (by rw [List.length_take]; have h_ : (x3_1 : Int) ≤ (l0.length : Int) := (by first | exact od_); omega)); omega); intro v417 w16 ho hb hg hat; rw [← Ny416.out] at ho; have n0_ := A0_ (hb); have n1_ := A0_ (ho); clear HB; have HB := n0_; have HO418 := n1_; clear n0_ n1_; clear ho hb hg hat))
        go_ret
        exact ⟨_, by first | rfl | (simp [errW_none, errW_some] <;> rfl) | (simp [*, errW_none, errW_some] <;> rfl), mvR HO418.out, bl_⟩

/-! ### astrolaberef01_From: function 36 -/
def astrolaberef01_From.f (k : Nat) (a0 : Int) : Option (List Int) := (astrolaberef01_Trim.f k (([(a0) % 4294967296, (a0 / 4294967296) % 4294967296] : List Int))).bind fun t422 => (some t422)
theorem astrolaberef01_From.mono : ∀ a0 k, LeO (astrolaberef01_From.f k a0) (astrolaberef01_From.f (k + 1) a0) := by
  intro a0 k
  unfold astrolaberef01_From.f
  repeat' first
      | (with_reducible exact astrolaberef01_Trim.mono _ _)
      | (with_reducible exact LeO.refl _)
      | (with_reducible exact LeO.none _)
      | (with_reducible refine LeO.ite ?_ ?_)
      | (with_reducible refine LeO.bind ?_ (fun _ => ?_))
      | exact astrolaberef01_Trim.mono _ _
      | exact LeO.none _
      | refine LeO.ite ?_ ?_
      | refine LeO.bind ?_ (fun _ => ?_)
set_option maxHeartbeats 8000000 in
set_option maxRecDepth 100000 in
theorem astrolaberef01_From.calls (k : Nat) (a0 : Int) (r : List Int) (w : World) (h : astrolaberef01_From.f k a0 = some r) :
    Calls Try.prog 36 #[.int .u64 a0] w fun e w' => ∃ v0_ : Value, e = .returned (v0_) ∧ Kd.R (Kd.int .u32) 37 w' w.heap.size (fun _ => True) v0_ r ∧ Below w.heap.size w w' := by
  have HB := A0_ (Below.refl w.heap.size w)
  have H : ((astrolaberef01_Trim.f k (([(a0) % 4294967296, (a0 / 4294967296) % 4294967296] : List Int))).bind fun t422 => (some t422)) = some r := h
  clear h
  obtain ⟨y419, hy419⟩ : ∃ y_ : List Int, y_ = (([(a0) % 4294967296, (a0 / 4294967296) % 4294967296] : List Int)) := ⟨_, rfl⟩
  replace H : ((astrolaberef01_Trim.f k y419).bind fun t422 => (some t422)) = some r := by first | (rw [hy419]; with_reducible exact H) | (rw [hy419]; exact H) | exact H
  have Ny419 := A0_ hy419
  clear hy419
  replace H := Option.bind_eq_some_iff.mp H
  obtain ⟨t422, A20, H⟩ := H
  (try dsimp only at H)
  have A2 := A0_ A20
  clear A20
  obtain rfl := Option.some.inj H
  go_enter Try.func36, Try.ntmps36
  go_wp2_with (first | ((with_reducible refine gate_dst (N := 8) rfl ?_); refine Kd.R_lit (Kd.int .u32) _ 37 ?hg (N := 8) ?hd (xs := ([(a0) % 4294967296, (a0 / 4294967296) % 4294967296] : List Int)) (inner := [.int .u32 ((a0) % 4294967296), .int .u32 ((a0 / 4294967296) % 4294967296)]) (ok := fun _ => True) (okp := fun _ => True) ?hr ?hp (fun _ hk => hk) trivial (Below.refl _ _) (Nat.le_refl _) (by simp) ?_; (case hd => rfl); (case hg => rfl); (case hr => first | (go_simp; done) | (go_simp; rfl)); (case hp => exact (Reps.one (show Kd.M (Kd.int .u32) _ _ _ ((a0) % 4294967296) [.int .u32 ((a0) % 4294967296)] from rfl) (Reps.one (show Kd.M (Kd.int .u32) _ _ _ ((a0 / 4294967296) % 4294967296) [.int .u32 ((a0 / 4294967296) % 4294967296)] from rfl) (Reps.none _ _)))); intro v420 w3 ho4 hb hg_ hnew_; clear hg_ hnew_; (first | rw [← Ny419.out] at ho4 | (simp only [Int.reduceToNat] at ho4; rw [← Ny419.out] at ho4)); have n0_ := A0_ (Kd.R_lower ho4 (below_size bl_)); have n1_ := A0_ (below_step bl_ hb); clear HB; have HO421 := n0_; have HB := n1_; clear n0_ n1_; clear hb ho4; obtain ⟨Ao5, co5, eo5⟩ := Kd.R_slice HO421.out; subst eo5) | ((with_reducible refine gate_callee (f := 29) rfl ?_); refine goesM_ (some 9) Try.func29 #[.slice Ao5 y419.length co5] rfl ?_; (with_reducible refine (astrolaberef01_Trim.calls k _ _ y419 t422 _ ?side1 ?side2 A2.out).mono ?_); (case side1 => exact mvC (Kd.R_reads' HO421.out).2.2); (case side2 => exact (Kd.R_reads' HO421.out).2.1); rintro e w6 ⟨v423, rfl, ho0, hb⟩; refine ⟨_, rfl, ?_⟩; have n0_ := A0_ (Kd.R_elder' (mvR HO421.out) (Kd.R_base ho0) hb); have n1_ := A0_ (Kd.R_lower (Kd.R_new' ho0 (Kd.R_lt (mvR HO421.out))) (below_size bl_)); have n2_ := A0_ (below_step bl_ hb); clear HO421; clear HB; have HO421 := n0_; have HO424 := n1_; have HB := n2_; clear n0_ n1_ n2_; (try clear hb); (try clear hb2); (try clear hk); (try clear hi); (try clear ho0)))
  go_ret
  exact ⟨_, by first | rfl | (simp [errW_none, errW_some] <;> rfl) | (simp [*, errW_none, errW_some] <;> rfl), mvR (Kd.R_mono HO424.out (fun _ hk => trivial)), bl_⟩

/-! ### astrolaberef01_Bits: function 31 -/
def astrolaberef01_Bits.l0 : Nat → Int → Int → Option (Int)
  | 0, _, _ => none
  | k + 1, x4, x5 => if x5 > 0 then (astrolaberef01_Bits.l0 k (wrap64 (x4 + 1)) (x5 / 2)) else (some x4)
def astrolaberef01_Bits.f (k : Nat) (l0 : List Int) : Option (Int) := (astrolaberef01_Trim.f k l0).bind fun t436 => (if (t436.length : Int) = 0 then (some 0) else (if 0 ≤ (wrap64 ((t436.length : Int) - 1)) then (if (wrap64 ((t436.length : Int) - 1)) < (t436.length : Int) then (astrolaberef01_Bits.l0 k (wrap64 (32 * (wrap64 ((t436.length : Int) - 1)))) (rd t436 (wrap64 ((t436.length : Int) - 1)))) else (none)) else (none)))
theorem astrolaberef01_Bits.mono_l : ∀ k, (∀ y0 y1, LeO (astrolaberef01_Bits.l0 k y0 y1) (astrolaberef01_Bits.l0 (k + 1) y0 y1))
  | 0 => fun _ _ r h => by simp [astrolaberef01_Bits.l0] at h
  | k + 1 => by
    have ih0 := astrolaberef01_Bits.mono_l k
    · intro y0 y1
      unfold astrolaberef01_Bits.l0
      repeat' first
      | (with_reducible exact ih0 _ _)
      | (with_reducible exact astrolaberef01_Trim.mono _ _)
      | (with_reducible exact LeO.refl _)
      | (with_reducible exact LeO.none _)
      | (with_reducible refine LeO.ite ?_ ?_)
      | (with_reducible refine LeO.bind ?_ (fun _ => ?_))
      | exact ih0 _ _
      | exact astrolaberef01_Trim.mono _ _
      | exact LeO.none _
      | refine LeO.ite ?_ ?_
      | refine LeO.bind ?_ (fun _ => ?_)
theorem astrolaberef01_Bits.mono : ∀ a0 k, LeO (astrolaberef01_Bits.f k a0) (astrolaberef01_Bits.f (k + 1) a0) := by
  intro a0 k
  have ih0 := astrolaberef01_Bits.mono_l k
  unfold astrolaberef01_Bits.f
  repeat' first
      | (with_reducible exact ih0 _ _)
      | (with_reducible exact astrolaberef01_Trim.mono _ _)
      | (with_reducible exact LeO.refl _)
      | (with_reducible exact LeO.none _)
      | (with_reducible refine LeO.ite ?_ ?_)
      | (with_reducible refine LeO.bind ?_ (fun _ => ?_))
      | exact ih0 _ _
      | exact astrolaberef01_Trim.mono _ _
      | exact LeO.none _
      | refine LeO.ite ?_ ?_
      | refine LeO.bind ?_ (fun _ => ?_)
set_option maxHeartbeats 8000000 in
set_option maxRecDepth 100000 in
theorem astrolaberef01_Bits.calls (k : Nat) (A0 : Option Addr) (c0 : Nat) (l0 : List Int) (r : Int) (w : World) (hr0 : Kd.C (Kd.int .u32) w A0 l0.length l0) (hc0 : l0.length ≤ c0) (h : astrolaberef01_Bits.f k l0 = some r) :
    Calls Try.prog 31 #[.slice A0 l0.length c0] w fun e w' => e = .returned (.int .i64 r) ∧ Below w.heap.size w w' := by
  have HR0 := A0_ hr0
  have HC0 := A0_ hc0
  clear hr0 hc0
  have HB := A0_ (Below.refl w.heap.size w)
  have H : ((astrolaberef01_Trim.f k l0).bind fun t436 => (if (t436.length : Int) = 0 then (some 0) else (if 0 ≤ (wrap64 ((t436.length : Int) - 1)) then (if (wrap64 ((t436.length : Int) - 1)) < (t436.length : Int) then (astrolaberef01_Bits.l0 k (wrap64 (32 * (wrap64 ((t436.length : Int) - 1)))) (rd t436 (wrap64 ((t436.length : Int) - 1)))) else (none)) else (none)))) = some r := h
  clear h
  replace H := Option.bind_eq_some_iff.mp H
  obtain ⟨t436, A20, H⟩ := H
  (try dsimp only at H)
  have A2 := A0_ A20
  clear A20
  by_cases c3 : (t436.length : Int) = 0
  · rw [if_pos c3] at H
    have c3b0 : ((t436.length : Int) == 0) = true := beq_iff_eq.mpr c3
    have c3b1 : ((t436.length : Int) != 0) = false := bne_eq_false_iff_eq.mpr c3
    clear c3
    obtain rfl := Option.some.inj H
    go_enter Try.func31, Try.ntmps31
    go_wp2_with (first | ((with_reducible refine gate_callee (f := 29) rfl ?_); refine goesM_ (some 7) Try.func29 #[.slice A0 l0.length c0] rfl ?_; (with_reducible refine (astrolaberef01_Trim.calls k _ _ l0 t436 _ ?side1 ?side2 A2.out).mono ?_); (case side1 => exact mvC HR0.out); (case side2 => exact HC0.out); rintro e w4 ⟨v437, rfl, ho0, hb⟩; refine ⟨_, rfl, ?_⟩; have n0_ := A0_ (Kd.R_lower ho0 (below_size bl_)); have n1_ := A0_ (below_step bl_ hb); clear HB; have HO438 := n0_; have HB := n1_; clear n0_ n1_; (try clear hb); (try clear hb2); (try clear hk); (try clear hi); (try clear ho0); obtain ⟨Ao5, co5, eo5⟩ := Kd.R_slice HO438.out; subst eo5))
    go_ret
    exact ⟨by first | rfl | (simp [errW_none, errW_some] <;> rfl) | (simp [*, errW_none, errW_some] <;> rfl), bl_⟩
  · rw [if_neg c3] at H
    have c3b0 : ((t436.length : Int) == 0) = false := beq_eq_false_iff_ne.mpr c3
    have c3b1 : ((t436.length : Int) != 0) = true := bne_iff_ne.mpr c3
    have c3b2 : ¬ (t436 = []) := fun h_ => c3 (by rw [h_]; rfl)
    obtain ⟨ji6, hji6⟩ : ∃ j_ : Int, (wrap64 ((t436.length : Int) - 1)) = j_ := ⟨_, rfl⟩
    (first | rw [hji6] at H | simp only [hji6] at H)
    (try rw [hji6] at A2)
    have hji6w : (IntKind.i64.wrap ((t436.length : Int) - 1)) = ji6 := (i64_w _).trans hji6
    by_cases c7 : 0 ≤ (ji6)
    case neg => rw [if_neg c7] at H; exact absurd H (by simp)
    rw [if_pos c7] at H
    have c7b0 : decide (0 ≤ (ji6)) = true := decide_eq_true c7
    clear c7
    by_cases c8 : (ji6) < (t436.length : Int)
    case neg => rw [if_neg c8] at H; exact absurd H (by simp)
    rw [if_pos c8] at H
    have c8b0 : decide ((ji6) < (t436.length : Int)) = true := decide_eq_true c8
    clear c8
    have H' := A0_ H
    clear H
    go_enter Try.func31, Try.ntmps31
    go_wp2_with (first | ((with_reducible refine gate_callee (f := 29) rfl ?_); refine goesM_ (some 7) Try.func29 #[.slice A0 l0.length c0] rfl ?_; (with_reducible refine (astrolaberef01_Trim.calls k _ _ l0 t436 _ ?side1 ?side2 A2.out).mono ?_); (case side1 => exact mvC HR0.out); (case side2 => exact HC0.out); rintro e w9 ⟨v437, rfl, ho0, hb⟩; refine ⟨_, rfl, ?_⟩; have n0_ := A0_ (Kd.R_lower ho0 (below_size bl_)); have n1_ := A0_ (below_step bl_ hb); clear HB; have HO438 := n0_; have HB := n1_; clear n0_ n1_; (try clear hb); (try clear hb2); (try clear hk); (try clear hi); (try clear ho0); obtain ⟨Ao10, co10, eo10⟩ := Kd.R_slice HO438.out; subst eo10; have p439 : 0 ≤ ((ji6) : Int) := od_; have q439 : (ji6) < (t436.length : Int) := od_; obtain ⟨ad439, e439, hx439_0⟩ := Kd.at_int (Kd.R_reads' HO438.out).2.2 (ji6) p439 q439; cases e439; replace p439 := eq_true p439; replace q439 := eq_true q439))
    go_loopg [4, 5] k (fun kq v4 v5 w' => ∃ (x4_1 : Int) (x5_1 : Int), v4 = .int .i64 x4_1 ∧ v5 = .int .u32 x5_1 ∧ Aside0 (astrolaberef01_Bits.l0 kq x4_1 x5_1 = some r) ∧ Aside0 (kq ≤ k) ∧ Aside0 (Below w.heap.size w w'))
    case atStart => exact ⟨(wrap64 (32 * (ji6))), (rd t436 (ji6)), (by first | rfl | (simp; done) | (simp only [← hji6] <;> (first | rfl | simp)) | (simp [*]; done)), (by first | rfl | (simp; done) | (simp only [← hji6] <;> (first | rfl | simp)) | (simp [*]; done)), H', ⟨Nat.le_refl _⟩, ⟨bl_⟩⟩
    case round =>
      clear H'
      (try clear c2); (try clear p2); (try clear c3); (try clear c3b0); (try clear c3b1); (try clear c3b2); (try clear p4); (try clear q4); (try clear hx4); (try clear p6); (try clear c7); (try clear c7b0); (try clear c8); (try clear c8b0); (try clear hx439_0); (try clear p439); (try clear q439)
      obtain ⟨x4_1, x5_1, rfl, rfl, HA, HK1, HB⟩ := hrel
      cases gk with
      | zero => exact absurd HA.out (by simp [astrolaberef01_Bits.l0])
      | succ k1 =>
        have H := HA.out
        clear HA
        simp only [astrolaberef01_Bits.l0] at H
        by_cases c11 : x5_1 > 0
        · rw [if_pos c11] at H
          have c11b0 : decide (0 < x5_1) = true := decide_eq_true c11
          clear c11
          have H' := A0_ H
          clear H
          go_wp2
          go_roundg k1
          case measure => have := HK1.out; omega
          case rel => exact ⟨(wrap64 (x4_1 + 1)), (x5_1 / 2), rs_, rs_, H', ⟨by have := HK1.out; omega⟩, ⟨bl_⟩⟩
        · rw [if_neg c11] at H
          have c11b0 : decide (0 < x5_1) = false := decide_eq_false c11
          clear c11
          obtain rfl := Option.some.inj H
          go_wp2
          go_ret
          exact ⟨by first | rfl | (simp [errW_none, errW_some] <;> rfl) | (simp only [← hji6]; first | rfl | (simp [errW_none, errW_some] <;> rfl)) | (simp [*, errW_none, errW_some] <;> rfl), bl_⟩

/-! ### astrolaberef01_Shl: function 32 -/
mutual
def astrolaberef01_Shl.j0 : Nat → List Int → Int → Bool → Option (List Int × Bool)
  | 0, _, _, _ => none
  | k + 1, x0, x1, x15 => if x15 = true then (some (([] : List Int), false)) else (if 0 ≤ (wrap64 (Int.tdiv x1 32)) then (if (wrap64 (Int.tdiv x1 32) : Int).toNat ≤ 70368744177664 then (astrolaberef01_Shl.l0 k x0 x1 (List.replicate (wrap64 (Int.tdiv x1 32) : Int).toNat 0) 0 0) else (none)) else (none))
def astrolaberef01_Shl.l0 : Nat → List Int → Int → List Int → Int → Int → Option (List Int × Bool)
  | 0, _, _, _, _, _ => none
  | k + 1, x0, x1, x6, x7, x8 => if x8 < (x0.length : Int) then (if 0 ≤ x8 then (if 0 ≤ (Int.tmod x1 32) then (if x6.length < 35184372088832 then (astrolaberef01_Shl.l0 k x0 x1 (x6 ++ [(Go.bits .or .u64 (shl .u64 (IntKind.u64.wrap (rd x0 x8)) (Int.tmod x1 32)) x7) % 4294967296]) ((Go.bits .or .u64 (shl .u64 (IntKind.u64.wrap (rd x0 x8)) (Int.tmod x1 32)) x7) / 4294967296) (wrap64 (x8 + 1))) else (none)) else (none)) else (none)) else (if x6.length < 35184372088832 then ((astrolaberef01_Trim.f k (x6 ++ [(x7) % 4294967296])).bind fun t450 => (some (t450, true))) else (none))
end
def astrolaberef01_Shl.f (k : Nat) (l0 : List Int) (a1 : Int) : Option (List Int × Bool) := if a1 < 0 then (astrolaberef01_Shl.j0 k l0 a1 true) else (astrolaberef01_Shl.j0 k l0 a1 (decide (a1 > 100000)))
theorem astrolaberef01_Shl.mono_l : ∀ k, (∀ y0 y1 y2, LeO (astrolaberef01_Shl.j0 k y0 y1 y2) (astrolaberef01_Shl.j0 (k + 1) y0 y1 y2)) ∧ (∀ y0 y1 y2 y3 y4, LeO (astrolaberef01_Shl.l0 k y0 y1 y2 y3 y4) (astrolaberef01_Shl.l0 (k + 1) y0 y1 y2 y3 y4))
  | 0 => ⟨fun _ _ _ r h => by simp [astrolaberef01_Shl.j0] at h, fun _ _ _ _ _ r h => by simp [astrolaberef01_Shl.l0] at h⟩
  | k + 1 => by
    obtain ⟨ih0, ih1⟩ := astrolaberef01_Shl.mono_l k
    refine ⟨?_, ?_⟩
    · intro y0 y1 y2
      unfold astrolaberef01_Shl.j0
      repeat' first
      | (with_reducible exact ih0 _ _ _)
      | (with_reducible exact ih1 _ _ _ _ _)
      | (with_reducible exact astrolaberef01_Trim.mono _ _)
      | (with_reducible exact LeO.refl _)
      | (with_reducible exact LeO.none _)
      | (with_reducible refine LeO.ite ?_ ?_)
      | (with_reducible refine LeO.bind ?_ (fun _ => ?_))
      | exact ih0 _ _ _
      | exact ih1 _ _ _ _ _
      | exact astrolaberef01_Trim.mono _ _
      | exact LeO.none _
      | refine LeO.ite ?_ ?_
      | refine LeO.bind ?_ (fun _ => ?_)
    · intro y0 y1 y2 y3 y4
      unfold astrolaberef01_Shl.l0
      repeat' first
      | (with_reducible exact ih0 _ _ _)
      | (with_reducible exact ih1 _ _ _ _ _)
      | (with_reducible exact astrolaberef01_Trim.mono _ _)
      | (with_reducible exact LeO.refl _)
      | (with_reducible exact LeO.none _)
      | (with_reducible refine LeO.ite ?_ ?_)
      | (with_reducible refine LeO.bind ?_ (fun _ => ?_))
      | exact ih0 _ _ _
      | exact ih1 _ _ _ _ _
      | exact astrolaberef01_Trim.mono _ _
      | exact LeO.none _
      | refine LeO.ite ?_ ?_
      | refine LeO.bind ?_ (fun _ => ?_)
theorem astrolaberef01_Shl.mono : ∀ a0 a1 k, LeO (astrolaberef01_Shl.f k a0 a1) (astrolaberef01_Shl.f (k + 1) a0 a1) := by
  intro a0 a1 k
  obtain ⟨ih0, ih1⟩ := astrolaberef01_Shl.mono_l k
  unfold astrolaberef01_Shl.f
  repeat' first
      | (with_reducible exact ih0 _ _ _)
      | (with_reducible exact ih1 _ _ _ _ _)
      | (with_reducible exact astrolaberef01_Trim.mono _ _)
      | (with_reducible exact LeO.refl _)
      | (with_reducible exact LeO.none _)
      | (with_reducible refine LeO.ite ?_ ?_)
      | (with_reducible refine LeO.bind ?_ (fun _ => ?_))
      | exact ih0 _ _ _
      | exact ih1 _ _ _ _ _
      | exact astrolaberef01_Trim.mono _ _
      | exact LeO.none _
      | refine LeO.ite ?_ ?_
      | refine LeO.bind ?_ (fun _ => ?_)
set_option maxHeartbeats 8000000 in
set_option maxRecDepth 100000 in
theorem astrolaberef01_Shl.calls (k : Nat) (A0 : Option Addr) (c0 : Nat) (l0 : List Int) (a1 : Int) (r1 : List Int) (r2 : Bool) (w : World) (hr0 : Kd.C (Kd.int .u32) w A0 l0.length l0) (hc0 : l0.length ≤ c0) (h : astrolaberef01_Shl.f k l0 a1 = some (r1, r2)) :
    Calls Try.prog 32 #[.slice A0 l0.length c0, .int .i64 a1] w fun e w' => ∃ v0_ : Value, e = .returned (.tuple #[v0_, .bool r2]) ∧ Kd.R (Kd.int .u32) 37 w' w.heap.size (fun _ => True) v0_ r1 ∧ Below w.heap.size w w' := by
  have HR0 := A0_ hr0
  have HC0 := A0_ hc0
  clear hr0 hc0
  have HB := A0_ (Below.refl w.heap.size w)
  have H : (if a1 < 0 then (astrolaberef01_Shl.j0 k l0 a1 true) else (astrolaberef01_Shl.j0 k l0 a1 (decide (a1 > 100000)))) = some (r1, r2) := h
  clear h
  have HC3 := A0_ H
  clear H
  go_enter Try.func32, Try.ntmps32
  go_upto_region 1 with (fail)
  go_cut [15] (fun v15 wc => ∃ (kq : Nat) (x15_2 : Bool), v15 = .bool x15_2 ∧ Aside0 (astrolaberef01_Shl.j0 kq l0 a1 x15_2 = some (r1, r2)) ∧ Aside0 (kq ≤ k) ∧ Aside0 (Below w.heap.size w wc))
  case first =>
    have H := HC3.out
    clear HC3
    by_cases c4 : a1 < 0
    · rw [if_pos c4] at H
      have c4b0 : decide (a1 < 0) = true := decide_eq_true c4
      clear c4
      (first | rw [c4b0] | (simp only [i64_w, i32_w]; rw [c4b0]) | rw [c4b1] | skip)
      have H' := A0_ H
      clear H
      go_wp2
      go_meet
      case rel => exact ⟨_, (true), rs_, H', ⟨by first | omega | exact Nat.le_refl _⟩, ⟨bl_⟩⟩
    · rw [if_neg c4] at H
      have c4b0 : decide (a1 < 0) = false := decide_eq_false c4
      clear c4
      (first | rw [c4b0] | (simp only [i64_w, i32_w]; rw [c4b0]) | rw [c4b1] | skip)
      have H' := A0_ H
      clear H
      go_wp2
      go_meet
      case rel => exact ⟨_, (decide (a1 > 100000)), rs_, H', ⟨by first | omega | exact Nat.le_refl _⟩, ⟨bl_⟩⟩
  case rest =>
    clear HC3
    (try clear p2); (try clear c3); (try clear c4); (try clear c4b0); (try clear c4b1)
    obtain ⟨kq, x15_2, rfl, HA, HJ2, HB⟩ := hcut
    cases kq with
    | zero => exact absurd HA.out (by simp [astrolaberef01_Shl.j0])
    | succ kj2 =>
      have H := HA.out
      clear HA
      simp only [astrolaberef01_Shl.j0] at H
      by_cases c5 : x15_2 = true
      · subst c5
        have H1 : (some (([] : List Int), false)) = some (r1, r2) := by rw [if_pos rfl] at H; exact H
        clear H
        have H := H1
        clear H1
        simp only [Option.some.injEq, Prod.mk.injEq] at H
        obtain ⟨rfl, rfl⟩ := H
        go_wp2
        go_ret2
        exact ⟨(.slice none 0 0), by first | rfl | (simp [errW_none, errW_some] <;> rfl) | (simp [*, errW_none, errW_some] <;> rfl), by first | exact Kd.R_nil _ _ _ _ _ | exact Kd.N_nil _ _ _ _ _ | exact Kd.V_nil _ _ _ _ _ | exact Kd.Q_nil _ _ _ _ _ | exact Kd.S_nil _ _ _ _ _, bl_⟩
      · replace c5 := Bool.eq_false_iff.mpr c5
        subst c5
        have H1 : (if 0 ≤ (wrap64 (Int.tdiv a1 32)) then (if (wrap64 (Int.tdiv a1 32) : Int).toNat ≤ 70368744177664 then (astrolaberef01_Shl.l0 kj2 l0 a1 (List.replicate (wrap64 (Int.tdiv a1 32) : Int).toNat 0) 0 0) else (none)) else (none)) = some (r1, r2) := by rw [if_neg (show ¬ (false = true) by decide)] at H; exact H
        clear H
        have H := H1
        clear H1
        obtain ⟨ji6, hji6⟩ : ∃ j_ : Int, (wrap64 (Int.tdiv a1 32)) = j_ := ⟨_, rfl⟩
        (first | rw [hji6] at H | simp only [hji6] at H)
        have hji6w : (IntKind.i64.wrap (Int.tdiv a1 32)) = ji6 := (i64_w _).trans hji6
        by_cases c7 : 0 ≤ (ji6)
        case neg => rw [if_neg c7] at H; exact absurd H (by simp)
        rw [if_pos c7] at H
        have c7b0 := eq_true c7
        have c7b1 : decide (0 ≤ (ji6)) = true := decide_eq_true c7
        clear c7
        by_cases c8 : (ji6 : Int).toNat ≤ 70368744177664
        case neg => rw [if_neg c8] at H; exact absurd H (by simp)
        rw [if_pos c8] at H
        have c8b0 := eq_true c8
        have c8b1 : decide ((ji6 : Int).toNat ≤ 70368744177664) = true := decide_eq_true c8
        clear c8
        obtain ⟨y440, hy440⟩ : ∃ y_ : List Int, y_ = (List.replicate (ji6 : Int).toNat 0) := ⟨_, rfl⟩
        replace H : (astrolaberef01_Shl.l0 kj2 l0 a1 y440 0 0) = some (r1, r2) := by first | (rw [hy440]; with_reducible exact H) | (rw [hy440]; exact H) | exact H
        have Ny440 := A0_ hy440
        clear hy440
        have H' := A0_ H
        clear H
        go_wp2_with (first | ((with_reducible refine gate_dst (N := 18) rfl ?_); refine Kd.R_make (Kd.int .u32) _ 37 rfl (N := 18) rfl 22 _ _ rfl ji6 rfl rfl Try.underlying22 (.int .u32 0) 4 info37 rfl (by decide) (by omega) 0 (ok := fun _ => True) (okp := fun _ => True) rfl (fun _ hk => hk) trivial od_ (Nat.le_trans (Nat.mul_le_mul_right _ (od_ : ji6.toNat ≤ 70368744177664)) (by omega)) (Below.refl _ _) (Nat.le_refl _) ?_; intro v441 w9 ho10 hb hg_ hnew_; clear hg_ hnew_; (first | rw [← Ny440.out] at ho10 | (simp only [Int.reduceToNat] at ho10; rw [← Ny440.out] at ho10)); have n0_ := A0_ (Kd.R_lower ho10 (below_size bl_)); have n1_ := A0_ (below_step bl_ hb); clear HB; have HO442 := n0_; have HB := n1_; clear n0_ n1_; clear hb ho10))
        go_loopg [6, 7, 8] kj2 (fun kq v6 v7 v8 w' => ∃ (x6_2 : List Int) (x7_2 : Int) (x8_2 : Int), v7 = .int .u64 x7_2 ∧ v8 = .int .i64 x8_2 ∧ Aside0 (astrolaberef01_Shl.l0 kq l0 a1 x6_2 x7_2 x8_2 = some (r1, r2)) ∧ Aside0 (kq ≤ kj2) ∧ Aside0 (Kd.R (Kd.int .u32) 37 w' w.heap.size (fun _ => True) v6 x6_2) ∧ Aside0 (Below w.heap.size w w'))
        case atStart => exact ⟨(y440), (0), (0), rs_, rs_, H', ⟨Nat.le_refl _⟩, ⟨mvR HO442.out⟩, ⟨bl_⟩⟩
        case round =>
          clear H'
          (try clear p2); (try clear c3); (try clear c4); (try clear c4b0); (try clear c4b1); (try clear c5); (try clear p6); (try clear c7); (try clear c7b0); (try clear c7b1); (try clear c8); (try clear c8b0); (try clear c8b1); (try clear p2)
          obtain ⟨x6_2, x7_2, x8_2, rfl, rfl, HA, HK2, HO_6, HB⟩ := hrel
          cases gk with
          | zero => exact absurd HA.out (by simp [astrolaberef01_Shl.l0])
          | succ k2 =>
            have H := HA.out
            clear HA
            simp only [astrolaberef01_Shl.l0] at H
            by_cases c11 : x8_2 < (l0.length : Int)
            · rw [if_pos c11] at H
              have c11b0 : decide (x8_2 < (l0.length : Int)) = true := decide_eq_true c11
              clear c11
              by_cases c12 : 0 ≤ x8_2
              case neg => rw [if_neg c12] at H; exact absurd H (by simp)
              rw [if_pos c12] at H
              have c12b0 : decide (0 ≤ x8_2) = true := decide_eq_true c12
              clear c12
              obtain ⟨ji13, hji13⟩ : ∃ j_ : Int, (Int.tmod a1 32) = j_ := ⟨_, rfl⟩
              (first | rw [hji13] at H | simp only [hji13] at H)
              by_cases c14 : 0 ≤ (ji13)
              case neg => rw [if_neg c14] at H; exact absurd H (by simp)
              rw [if_pos c14] at H
              have c14b0 := eq_true c14
              have c14b1 : decide (0 ≤ (ji13)) = true := decide_eq_true c14
              clear c14
              obtain ⟨ji15, hji15⟩ : ∃ j_ : Int, (shl .u64 (IntKind.u64.wrap (rd l0 x8_2)) (ji13)) = j_ := ⟨_, rfl⟩
              (first | rw [hji15] at H | simp only [hji15] at H)
              have hji15_ : (IntKind.u64.wrap ((IntKind.u64.wrap (rd l0 x8_2)) * 2 ^ min (ji13).toNat 64)) = ji15 := hji15
              have hji15z : (ji13) ≤ 64 → (IntKind.u64.wrap ((IntKind.u64.wrap (rd l0 x8_2)) * 2 ^ (ji13).toNat)) = ji15 := shl_small hji15
              by_cases c16 : x6_2.length < 35184372088832
              case neg => rw [if_neg c16] at H; exact absurd H (by simp)
              rw [if_pos c16] at H
              have LMc16 := A0_ c16
              clear c16
              obtain ⟨y444, hy444⟩ : ∃ y_ : List Int, y_ = (x6_2 ++ [(Go.bits .or .u64 (ji15) x7_2) % 4294967296]) := ⟨_, rfl⟩
              replace H : (astrolaberef01_Shl.l0 k2 l0 a1 y444 ((Go.bits .or .u64 (ji15) x7_2) / 4294967296) (wrap64 (x8_2 + 1))) = some (r1, r2) := by first | (rw [hy444]; with_reducible exact H) | (rw [hy444]; exact H) | exact H
              have Ny444 := A0_ hy444
              clear hy444
              have H' := A0_ H
              clear H
              have p443 : 0 ≤ (x8_2 : Int) := od_
              have q443 : x8_2 < (l0.length : Int) := od_
              obtain ⟨ad443, e443, hx443_0⟩ := Kd.at_int HR0.out x8_2 p443 q443
              cases e443
              replace hx443_0 := (HB.out.cell (World.block_lt_of_cell? w _ hx443_0)).trans hx443_0
              replace p443 := eq_true p443
              replace q443 := eq_true q443
              go_wp2_with (first | ((with_reducible refine gate_builtin (b := .append) (xs := #[.tmp 35, .tmp 38]) rfl ?_); at_builtin; refine Kd.R_append (Kd.int .u32) (w0 := w) w.heap.size rfl (.tmp 35) (.tmp 38) 22 37 (.int .u32 0) 4 rfl Try.underlying22 info37 rfl (by decide) (by omega) u6 x6_2 ((Go.bits .or .u64 (ji15) x7_2) % 4294967296) [.int .u32 ((Go.bits .or .u64 (ji15) x7_2) % 4294967296)] (fun _ => True) (fun _ => False) rfl rfl ?aP (fun _ hk => hk.elim) ?aF ?aO ?aB ?aS ?aL ?_; (case aP => exact rfl); (case aB => exact bl_); (case aF => exact (fun _ _ => trivial)); (case aO => exact (mvR HO_6.out)); (case aS => exact (below_size bl_)); (case aL => have := LMc16.out; omega); intro v445 w17 ho hb hg hat; rw [← Ny444.out] at ho; have n0_ := A0_ (hb); have n1_ := A0_ (ho); clear HB; clear HO_6; have HB := n0_; have HO446 := n1_; clear n0_ n1_; clear ho hb hg hat))
              go_roundg k2
              case measure => have := HJ2.out; have := HK2.out; omega
              case rel => exact ⟨(y444), ((Go.bits .or .u64 (ji15) x7_2) / 4294967296), (wrap64 (x8_2 + 1)), (by first | rfl | (simp; done) | (simp only [← hji15] <;> (first | rfl | simp)) | (simp [*]; done)), rs_, H', ⟨by have := HJ2.out; have := HK2.out; omega⟩, ⟨mvR HO446.out⟩, ⟨bl_⟩⟩
            · rw [if_neg c11] at H
              have c11b0 : decide (x8_2 < (l0.length : Int)) = false := decide_eq_false c11
              clear c11
              by_cases c18 : x6_2.length < 35184372088832
              case neg => rw [if_neg c18] at H; exact absurd H (by simp)
              rw [if_pos c18] at H
              have LMc18 := A0_ c18
              clear c18
              obtain ⟨y447, hy447⟩ : ∃ y_ : List Int, y_ = (x6_2 ++ [(x7_2) % 4294967296]) := ⟨_, rfl⟩
              replace H : ((astrolaberef01_Trim.f k2 y447).bind fun t450 => (some (t450, true))) = some (r1, r2) := by first | (rw [hy447]; with_reducible exact H) | (rw [hy447]; exact H) | exact H
              have Ny447 := A0_ hy447
              clear hy447
              replace H := Option.bind_eq_some_iff.mp H
              obtain ⟨t450, A190, H⟩ := H
              (try dsimp only at H)
              have A19 := A0_ A190
              clear A190
              simp only [Option.some.injEq, Prod.mk.injEq] at H
              obtain ⟨rfl, rfl⟩ := H
              go_wp2_with (first | ((with_reducible refine gate_builtin (b := .append) (xs := #[.tmp 42, .tmp 45]) rfl ?_); at_builtin; refine Kd.R_append (Kd.int .u32) (w0 := w) w.heap.size rfl (.tmp 42) (.tmp 45) 22 37 (.int .u32 0) 4 rfl Try.underlying22 info37 rfl (by decide) (by omega) u6 x6_2 ((x7_2) % 4294967296) [.int .u32 ((x7_2) % 4294967296)] (fun _ => True) (fun _ => False) rfl rfl ?aP (fun _ hk => hk.elim) ?aF ?aO ?aB ?aS ?aL ?_; (case aP => exact rfl); (case aB => exact bl_); (case aF => exact (fun _ _ => trivial)); (case aO => exact (mvR HO_6.out)); (case aS => exact (below_size bl_)); (case aL => have := LMc18.out; omega); intro v448 w20 ho hb hg hat; rw [← Ny447.out] at ho; have n0_ := A0_ (hb); have n1_ := A0_ (ho); clear HB; clear HO_6; have HB := n0_; have HO449 := n1_; clear n0_ n1_; clear ho hb hg hat; obtain ⟨Ao21, co21, eo21⟩ := Kd.R_slice HO449.out; subst eo21) | ((with_reducible refine gate_callee (f := 29) rfl ?_); refine goesM_ (some 47) Try.func29 #[.slice Ao21 y447.length co21] rfl ?_; (with_reducible refine (astrolaberef01_Trim.calls k2 _ _ y447 t450 _ ?side1 ?side2 A19.out).mono ?_); (case side1 => exact mvC (Kd.R_reads' HO449.out).2.2); (case side2 => exact (Kd.R_reads' HO449.out).2.1); rintro e w22 ⟨v451, rfl, ho0, hb⟩; refine ⟨_, rfl, ?_⟩; have n0_ := A0_ (Kd.R_elder' (mvR HO449.out) (Kd.R_base ho0) hb); have n1_ := A0_ (Kd.R_lower (Kd.R_new' ho0 (Kd.R_lt (mvR HO449.out))) (below_size bl_)); have n2_ := A0_ (below_step bl_ hb); clear HO449; clear HB; have HO449 := n0_; have HO452 := n1_; have HB := n2_; clear n0_ n1_ n2_; (try clear hb); (try clear hb2); (try clear hk); (try clear hi); (try clear ho0)))
              go_ret2
              exact ⟨_, by first | rfl | (simp [errW_none, errW_some] <;> rfl) | (simp only [← hji6]; first | rfl | (simp [errW_none, errW_some] <;> rfl)) | (simp [*, errW_none, errW_some] <;> rfl), mvR (Kd.R_mono HO452.out (fun _ hk => trivial)), bl_⟩

/-! ### astrolaberef01_at: function 50 -/
def astrolaberef01_at.f (l0 : List Int) (a1 : Int) : Option (Int) := if a1 ≥ (l0.length : Int) then (some 0) else (if 0 ≤ a1 then (if a1 < (l0.length : Int) then (some (IntKind.u64.wrap (rd l0 a1))) else (none)) else (none))
set_option maxHeartbeats 8000000 in
set_option maxRecDepth 100000 in
theorem astrolaberef01_at.calls (A0 : Option Addr) (c0 : Nat) (l0 : List Int) (a1 : Int) (r : Int) (w : World) (hr0 : Kd.C (Kd.int .u32) w A0 l0.length l0) (hc0 : l0.length ≤ c0) (h : astrolaberef01_at.f l0 a1 = some r) :
    Calls Try.prog 50 #[.slice A0 l0.length c0, .int .i64 a1] w fun e w' => e = .returned (.int .u64 r) ∧ Drawn0 w w' := by
  have HR0 := A0_ hr0
  have HC0 := A0_ hc0
  clear hr0 hc0
  have H : (if a1 ≥ (l0.length : Int) then (some 0) else (if 0 ≤ a1 then (if a1 < (l0.length : Int) then (some (IntKind.u64.wrap (rd l0 a1))) else (none)) else (none))) = some r := h
  clear h
  by_cases c3 : a1 ≥ (l0.length : Int)
  · rw [if_pos c3] at H
    have c3b0 : decide ((l0.length : Int) ≤ a1) = true := decide_eq_true c3
    clear c3
    obtain rfl := Option.some.inj H
    go_enter Try.func50, Try.ntmps50
    go_wp2
    go_ret
    exact ⟨by first | rfl | (simp; done) | (simp [*]; done), by repeat (first | exact Drawn0.refl _ | apply Drawn0.step)⟩
  · rw [if_neg c3] at H
    have c3b0 : decide ((l0.length : Int) ≤ a1) = false := decide_eq_false c3
    clear c3
    by_cases c4 : 0 ≤ a1
    case neg => rw [if_neg c4] at H; exact absurd H (by simp)
    rw [if_pos c4] at H
    have c4b0 : decide (0 ≤ a1) = true := decide_eq_true c4
    clear c4
    by_cases c5 : a1 < (l0.length : Int)
    case neg => rw [if_neg c5] at H; exact absurd H (by simp)
    rw [if_pos c5] at H
    have c5b0 : decide (a1 < (l0.length : Int)) = true := decide_eq_true c5
    clear c5
    obtain rfl := Option.some.inj H
    have p457 : 0 ≤ (a1 : Int) := od_
    have q457 : a1 < (l0.length : Int) := od_
    obtain ⟨ad457, e457, hx457_0⟩ := Kd.at_int HR0.out a1 p457 q457
    cases e457
    replace p457 := eq_true p457
    replace q457 := eq_true q457
    go_enter Try.func50, Try.ntmps50
    go_wp2
    go_ret
    exact ⟨by first | rfl | (simp; done) | (simp [*]; done), by repeat (first | exact Drawn0.refl _ | apply Drawn0.step)⟩

end Go.Proofs.Ytohkjfdcmiiehaa.P
