/- What the Go functions of these names come to, as plain Lean functions, and the walks that show it. Written for this claim by a turned copy of the print program; Lean checks it. -/
import Derived.Test.YtmkffnhgcpdbaaaP0
import Derived.Test.YtmkffnhgcpdbaaaP1
import Derived.Test.YtmkffnhgcpdbaaaP2
import Derived.Test.YtmkffnhgcpdbaaaP8
namespace Go.Proofs.Ytmkffnhgcpdbaaa.P
open Go.RowKit Go.Proofs.YtmkffnhgcpdbaaaW.PrintWords Go.Proofs.YtmkffnhgcpdbaaaW.PrintLast Go.Proofs.YtmkffnhgcpdbaaaW.PrintMore
attribute [local go_sem] max2_int min2_int max_two min_two max_three min_three max_four min_four   -- for this text's walks alone
set_option linter.unusedVariables false
set_option linter.unusedSimpArgs false

/-! ### astrolabelaw01_NatSmalls: function 3 -/
def astrolabelaw01_NatSmalls.l0 : Nat → Int → Int → Int → Bool → Int → Bool → Int → Bool → Int → Bool → Int → Int → Option (Bool)
  | 0, _, _, _, _, _, _, _, _, _, _, _, _ => none
  | k + 1, x0, x1, x2, x7, x8, x9, x10, x11, x12, x13, x14, x15 => if x15 > 0 then (astrolabelaw01_NatSmalls.l0 k x0 x1 x2 x7 x8 x9 x10 x11 x12 x13 (wrap64 (x14 + 1)) (IntKind.u64.wrap (Int.tdiv x15 2))) else (if x7 = true then (if x8 = x0 then (if x9 = true then (if x10 = (IntKind.u64.wrap ((IntKind.u64.wrap (x1)) + (IntKind.u64.wrap (x2)))) then (if x11 = true then (if x12 = (IntKind.u64.wrap ((IntKind.u64.wrap (x1)) * (IntKind.u64.wrap (x2)))) then (if x13 = true then ((nat_From.f k x0).bind fun t222 => ((nat_Bits.f k t222).bind fun t225 => (some (t225 == x14)))) else (none)) else (none)) else (none)) else (none)) else (none)) else (none)) else (none))
def astrolabelaw01_NatSmalls.f (k : Nat) (a0 : Int) (a1 : Int) (a2 : Int) : Option (Bool) := (astrolabelaw01_examples.f k).bind fun t194 => (if t194 = true then ((nat_From.f k a0).bind fun t195 => ((nat_Small.f k t195).bind fun bt198 => ((nat_Add.f k (([a1] : List Int)) (([a2] : List Int))).bind fun t206 => ((nat_Small.f k t206).bind fun bt209 => ((nat_Mul.f k (([a1] : List Int)) (([a2] : List Int))).bind fun t217 => ((nat_Small.f k t217).bind fun bt220 => (astrolabelaw01_NatSmalls.l0 k a0 a1 a2 t194 bt198.1 bt198.2 bt209.1 bt209.2 bt220.1 bt220.2 0 a0))))))) else (none))
theorem astrolabelaw01_NatSmalls.mono_l : ∀ k, (∀ y0 y1 y2 y3 y4 y5 y6 y7 y8 y9 y10 y11, LeO (astrolabelaw01_NatSmalls.l0 k y0 y1 y2 y3 y4 y5 y6 y7 y8 y9 y10 y11) (astrolabelaw01_NatSmalls.l0 (k + 1) y0 y1 y2 y3 y4 y5 y6 y7 y8 y9 y10 y11))
  | 0 => fun _ _ _ _ _ _ _ _ _ _ _ _ r h => by simp [astrolabelaw01_NatSmalls.l0] at h
  | k + 1 => by
    have ih0 := astrolabelaw01_NatSmalls.mono_l k
    · intro y0 y1 y2 y3 y4 y5 y6 y7 y8 y9 y10 y11
      unfold astrolabelaw01_NatSmalls.l0
      repeat' first
      | (with_reducible exact ih0 _ _ _ _ _ _ _ _ _ _ _ _)
      | (with_reducible exact astrolabelaw01_examples.mono _)
      | (with_reducible exact nat_Add.mono _ _ _)
      | (with_reducible exact nat_Bits.mono _ _)
      | (with_reducible exact nat_From.mono _ _)
      | (with_reducible exact nat_Mul.mono _ _ _)
      | (with_reducible exact nat_Small.mono _ _)
      | (with_reducible exact LeO.refl _)
      | (with_reducible exact LeO.none _)
      | (with_reducible refine LeO.ite ?_ ?_)
      | (with_reducible refine LeO.bind ?_ (fun _ => ?_))
      | exact ih0 _ _ _ _ _ _ _ _ _ _ _ _
      | exact astrolabelaw01_examples.mono _
      | exact nat_Add.mono _ _ _
      | exact nat_Bits.mono _ _
      | exact nat_From.mono _ _
      | exact nat_Mul.mono _ _ _
      | exact nat_Small.mono _ _
      | exact LeO.none _
      | refine LeO.ite ?_ ?_
      | refine LeO.bind ?_ (fun _ => ?_)
theorem astrolabelaw01_NatSmalls.mono : ∀ a0 a1 a2 k, LeO (astrolabelaw01_NatSmalls.f k a0 a1 a2) (astrolabelaw01_NatSmalls.f (k + 1) a0 a1 a2) := by
  intro a0 a1 a2 k
  have ih0 := astrolabelaw01_NatSmalls.mono_l k
  unfold astrolabelaw01_NatSmalls.f
  repeat' first
      | (with_reducible exact ih0 _ _ _ _ _ _ _ _ _ _ _ _)
      | (with_reducible exact astrolabelaw01_examples.mono _)
      | (with_reducible exact nat_Add.mono _ _ _)
      | (with_reducible exact nat_Bits.mono _ _)
      | (with_reducible exact nat_From.mono _ _)
      | (with_reducible exact nat_Mul.mono _ _ _)
      | (with_reducible exact nat_Small.mono _ _)
      | (with_reducible exact LeO.refl _)
      | (with_reducible exact LeO.none _)
      | (with_reducible refine LeO.ite ?_ ?_)
      | (with_reducible refine LeO.bind ?_ (fun _ => ?_))
      | exact ih0 _ _ _ _ _ _ _ _ _ _ _ _
      | exact astrolabelaw01_examples.mono _
      | exact nat_Add.mono _ _ _
      | exact nat_Bits.mono _ _
      | exact nat_From.mono _ _
      | exact nat_Mul.mono _ _ _
      | exact nat_Small.mono _ _
      | exact LeO.none _
      | refine LeO.ite ?_ ?_
      | refine LeO.bind ?_ (fun _ => ?_)
set_option maxHeartbeats 8000000 in
set_option maxRecDepth 100000 in
theorem astrolabelaw01_NatSmalls.calls (k : Nat) (a0 : Int) (a1 : Int) (a2 : Int) (r : Bool) (w : World) (h : astrolabelaw01_NatSmalls.f k a0 a1 a2 = some r) :
    Calls Try.prog 3 #[.int .u64 a0, .int .u32 a1, .int .u32 a2] w fun e w' => e = .returned (.bool r) ∧ Below w.heap.size w w' := by
  have HB := Aside0.mk (Below.refl w.heap.size w)
  have H : ((astrolabelaw01_examples.f k).bind fun t194 => (if t194 = true then ((nat_From.f k a0).bind fun t195 => ((nat_Small.f k t195).bind fun bt198 => ((nat_Add.f k (([a1] : List Int)) (([a2] : List Int))).bind fun t206 => ((nat_Small.f k t206).bind fun bt209 => ((nat_Mul.f k (([a1] : List Int)) (([a2] : List Int))).bind fun t217 => ((nat_Small.f k t217).bind fun bt220 => (astrolabelaw01_NatSmalls.l0 k a0 a1 a2 t194 bt198.1 bt198.2 bt209.1 bt209.2 bt220.1 bt220.2 0 a0))))))) else (none))) = some r := h
  clear h
  replace H := Option.bind_eq_some_iff.mp H
  obtain ⟨t194, A40, H⟩ := H
  replace H : (if t194 = true then ((nat_From.f k a0).bind fun t195 => ((nat_Small.f k t195).bind fun bt198 => ((nat_Add.f k (([a1] : List Int)) (([a2] : List Int))).bind fun t206 => ((nat_Small.f k t206).bind fun bt209 => ((nat_Mul.f k (([a1] : List Int)) (([a2] : List Int))).bind fun t217 => ((nat_Small.f k t217).bind fun bt220 => (astrolabelaw01_NatSmalls.l0 k a0 a1 a2 t194 bt198.1 bt198.2 bt209.1 bt209.2 bt220.1 bt220.2 0 a0))))))) else (none)) = some r := H
  have A4 := Aside0.mk A40
  clear A40
  by_cases c5 : t194 = true
  · subst c5
    have H1 : ((nat_From.f k a0).bind fun t195 => ((nat_Small.f k t195).bind fun bt198 => ((nat_Add.f k (([a1] : List Int)) (([a2] : List Int))).bind fun t206 => ((nat_Small.f k t206).bind fun bt209 => ((nat_Mul.f k (([a1] : List Int)) (([a2] : List Int))).bind fun t217 => ((nat_Small.f k t217).bind fun bt220 => (astrolabelaw01_NatSmalls.l0 k a0 a1 a2 true bt198.1 bt198.2 bt209.1 bt209.2 bt220.1 bt220.2 0 a0))))))) = some r := by rw [if_pos rfl] at H; exact H
    clear H
    have H := H1
    clear H1
    replace H := Option.bind_eq_some_iff.mp H
    obtain ⟨t195, A60, H⟩ := H
    replace H : ((nat_Small.f k t195).bind fun bt198 => ((nat_Add.f k (([a1] : List Int)) (([a2] : List Int))).bind fun t206 => ((nat_Small.f k t206).bind fun bt209 => ((nat_Mul.f k (([a1] : List Int)) (([a2] : List Int))).bind fun t217 => ((nat_Small.f k t217).bind fun bt220 => (astrolabelaw01_NatSmalls.l0 k a0 a1 a2 true bt198.1 bt198.2 bt209.1 bt209.2 bt220.1 bt220.2 0 a0)))))) = some r := H
    have A6 := Aside0.mk A60
    clear A60
    replace H := Option.bind_eq_some_iff.mp H
    obtain ⟨⟨t198, t199⟩, A70, H⟩ := H
    replace H : ((nat_Add.f k (([a1] : List Int)) (([a2] : List Int))).bind fun t206 => ((nat_Small.f k t206).bind fun bt209 => ((nat_Mul.f k (([a1] : List Int)) (([a2] : List Int))).bind fun t217 => ((nat_Small.f k t217).bind fun bt220 => (astrolabelaw01_NatSmalls.l0 k a0 a1 a2 true t198 t199 bt209.1 bt209.2 bt220.1 bt220.2 0 a0))))) = some r := H
    have A7 := Aside0.mk A70
    clear A70
    obtain ⟨y200, hy200⟩ : ∃ y_ : List Int, y_ = (([a1] : List Int)) := ⟨_, rfl⟩
    replace H : ((nat_Add.f k y200 (([a2] : List Int))).bind fun t206 => ((nat_Small.f k t206).bind fun bt209 => ((nat_Mul.f k (([a1] : List Int)) (([a2] : List Int))).bind fun t217 => ((nat_Small.f k t217).bind fun bt220 => (astrolabelaw01_NatSmalls.l0 k a0 a1 a2 true t198 t199 bt209.1 bt209.2 bt220.1 bt220.2 0 a0))))) = some r := by first | (rw [hy200]; with_reducible exact H) | (have H2_ := (Option.bind_some _ _).symm.trans H; rw [hy200]; with_reducible exact H2_) | (have H2_ := (Option.bind_some _ _).symm.trans H; with_reducible exact H2_) | with_reducible exact H | (rw [hy200]; exact H) | exact H
    have Ny200 := Aside0.mk hy200
    clear hy200
    obtain ⟨y203, hy203⟩ : ∃ y_ : List Int, y_ = (([a2] : List Int)) := ⟨_, rfl⟩
    replace H : ((nat_Add.f k y200 y203).bind fun t206 => ((nat_Small.f k t206).bind fun bt209 => ((nat_Mul.f k (([a1] : List Int)) (([a2] : List Int))).bind fun t217 => ((nat_Small.f k t217).bind fun bt220 => (astrolabelaw01_NatSmalls.l0 k a0 a1 a2 true t198 t199 bt209.1 bt209.2 bt220.1 bt220.2 0 a0))))) = some r := by first | (rw [hy203]; with_reducible exact H) | (have H2_ := (Option.bind_some _ _).symm.trans H; rw [hy203]; with_reducible exact H2_) | (have H2_ := (Option.bind_some _ _).symm.trans H; with_reducible exact H2_) | with_reducible exact H | (rw [hy203]; exact H) | exact H
    have Ny203 := Aside0.mk hy203
    clear hy203
    replace H := Option.bind_eq_some_iff.mp H
    obtain ⟨t206, A80, H⟩ := H
    replace H : ((nat_Small.f k t206).bind fun bt209 => ((nat_Mul.f k (([a1] : List Int)) (([a2] : List Int))).bind fun t217 => ((nat_Small.f k t217).bind fun bt220 => (astrolabelaw01_NatSmalls.l0 k a0 a1 a2 true t198 t199 bt209.1 bt209.2 bt220.1 bt220.2 0 a0)))) = some r := H
    have A8 := Aside0.mk A80
    clear A80
    replace H := Option.bind_eq_some_iff.mp H
    obtain ⟨⟨t209, t210⟩, A90, H⟩ := H
    replace H : ((nat_Mul.f k (([a1] : List Int)) (([a2] : List Int))).bind fun t217 => ((nat_Small.f k t217).bind fun bt220 => (astrolabelaw01_NatSmalls.l0 k a0 a1 a2 true t198 t199 t209 t210 bt220.1 bt220.2 0 a0))) = some r := H
    have A9 := Aside0.mk A90
    clear A90
    obtain ⟨y211, hy211⟩ : ∃ y_ : List Int, y_ = (([a1] : List Int)) := ⟨_, rfl⟩
    replace H : ((nat_Mul.f k y211 (([a2] : List Int))).bind fun t217 => ((nat_Small.f k t217).bind fun bt220 => (astrolabelaw01_NatSmalls.l0 k a0 a1 a2 true t198 t199 t209 t210 bt220.1 bt220.2 0 a0))) = some r := by first | (rw [hy211]; with_reducible exact H) | (have H2_ := (Option.bind_some _ _).symm.trans H; rw [hy211]; with_reducible exact H2_) | (have H2_ := (Option.bind_some _ _).symm.trans H; with_reducible exact H2_) | with_reducible exact H | (rw [hy211]; exact H) | exact H
    have Ny211 := Aside0.mk hy211
    clear hy211
    obtain ⟨y214, hy214⟩ : ∃ y_ : List Int, y_ = (([a2] : List Int)) := ⟨_, rfl⟩
    replace H : ((nat_Mul.f k y211 y214).bind fun t217 => ((nat_Small.f k t217).bind fun bt220 => (astrolabelaw01_NatSmalls.l0 k a0 a1 a2 true t198 t199 t209 t210 bt220.1 bt220.2 0 a0))) = some r := by first | (rw [hy214]; with_reducible exact H) | (have H2_ := (Option.bind_some _ _).symm.trans H; rw [hy214]; with_reducible exact H2_) | (have H2_ := (Option.bind_some _ _).symm.trans H; with_reducible exact H2_) | with_reducible exact H | (rw [hy214]; exact H) | exact H
    have Ny214 := Aside0.mk hy214
    clear hy214
    replace H := Option.bind_eq_some_iff.mp H
    obtain ⟨t217, A100, H⟩ := H
    replace H : ((nat_Small.f k t217).bind fun bt220 => (astrolabelaw01_NatSmalls.l0 k a0 a1 a2 true t198 t199 t209 t210 bt220.1 bt220.2 0 a0)) = some r := H
    have A10 := Aside0.mk A100
    clear A100
    replace H := Option.bind_eq_some_iff.mp H
    obtain ⟨⟨t220, t221⟩, A110, H⟩ := H
    replace H : (astrolabelaw01_NatSmalls.l0 k a0 a1 a2 true t198 t199 t209 t210 t220 t221 0 a0) = some r := H
    have A11 := Aside0.mk A110
    clear A110
    have H' := Aside0.mk H
    clear H
    go_enter Try.func3, Try.ntmps3
    go_wp2_with (first | ((with_reducible refine gate_callee (f := 11) rfl ?_); refine goesL_ (some 16) rfl rfl Try.func11 (by kernel_rfl) rfl #[] rfl (by (try simp only [List.map_toArray, List.map_cons, List.map_nil]); first | done | rfl | (simp only [List.length_drop, List.length_take]; rfl)) ?_; (with_reducible refine (astrolabelaw01_examples.calls k  true _ A4.out).mono ?_); rintro e w12 ⟨rfl, hb⟩; refine ⟨_, rfl, ?_⟩; have n0_ := Aside0.mk (below_step (by repeat (first | (with_reducible first | exact HB.out | apply below_alloc | apply pw_below_drewN | apply below_drew1) | exact HB.out)) hb); clear HB; have HB := n0_; clear n0_; (try clear hb); (try clear hb2); (try clear hk); (try clear hi)) | ((with_reducible refine gate_callee (f := 13) rfl ?_); refine goesL_ (some 21) rfl rfl Try.func13 (by kernel_rfl) rfl #[.int .u64 a0] rfl (by (try simp only [List.map_toArray, List.map_cons, List.map_nil]); first | done | rfl | (simp only [List.length_drop, List.length_take]; rfl)) ?_; (with_reducible refine (nat_From.calls k a0 t195 _ A6.out).mono ?_); rintro e w13 ⟨v196, rfl, ho0, hb⟩; refine ⟨_, rfl, ?_⟩; have n0_ := Aside0.mk (Kd.V_lower (Kd.V_mono (ok' := fun k_ => True) ho0 (fun k_ hk_ => trivial)) (below_size (by repeat (first | (with_reducible first | exact HB.out | apply below_alloc | apply pw_below_drewN | apply below_drew1) | exact HB.out)))); have n1_ := Aside0.mk (below_step (by repeat (first | (with_reducible first | exact HB.out | apply below_alloc | apply pw_below_drewN | apply below_drew1) | exact HB.out)) hb); clear HB; have HO197 := n0_; have HB := n1_; clear n0_ n1_; (try clear hb); (try clear hb2); (try clear hk); (try clear hi); (try clear ho0); obtain ⟨Ao14, co14, eo14⟩ := Kd.V_slice HO197.out; subst eo14) | ((with_reducible refine gate_callee (f := 12) rfl ?_); refine goesL_ (some 22) rfl rfl Try.func12 (by kernel_rfl) rfl #[.slice Ao14 t195.length co14] rfl (by (try simp only [List.map_toArray, List.map_cons, List.map_nil]); first | done | rfl | (simp only [List.length_drop, List.length_take]; rfl)) ?_; (with_reducible refine (nat_Small.calls k _ _ t195 t198 t199 _ ?side1 ?side2 A7.out).mono ?_); (case side1 => repeat (first | exact (Kd.V_reads' HO197.out).2.2 | (with_reducible refine Kd.C_alloc ?_ _) | (with_reducible refine Kd.C_drewN ?_ _) | (with_reducible refine Kd.C_drew ?_))); (case side2 => exact (Kd.V_reads' HO197.out).2.1); rintro e w15 ⟨rfl, hb⟩; refine ⟨_, rfl, ?_⟩; have n0_ := Aside0.mk (Kd.V_below (by (with_reducible repeat (first | apply Kd.V_alloc | apply Kd.V_drewN | apply Kd.V_drew)); exact HO197.out) hb); have n1_ := Aside0.mk (below_step (by repeat (first | (with_reducible first | exact HB.out | apply below_alloc | apply pw_below_drewN | apply below_drew1) | exact HB.out)) hb); clear HO197; clear HB; have HO197 := n0_; have HB := n1_; clear n0_ n1_; (try clear hb); (try clear hb2); (try clear hk); (try clear hi)) | ((with_reducible refine gate_dst (N := 27) rfl ?_); refine Kd.R_lit (Kd.int .u32) _ 23 ?hg (N := 27) ?hd (xs := ([a1] : List Int)) (inner := [.int .u32 a1]) (ok := fun _ => True) (okp := fun _ => True) ?hr ?hp (fun _ hk => hk) trivial (Below.refl _ _) (Nat.le_refl _) (by simp) ?_; (case hd => rfl); (case hg => rfl); (case hr => first | (go_simp; done) | (go_simp; rfl)); (case hp => exact (Reps.one (show Kd.M (Kd.int .u32) _ _ _ a1 [.int .u32 a1] from rfl) (Reps.none _ _))); intro v201 w16 ho17 hb hg_ hnew_; clear hg_ hnew_; (first | rw [← Ny200.out] at ho17 | (simp only [Int.reduceToNat] at ho17; rw [← Ny200.out] at ho17)); have n0_ := Aside0.mk (Kd.V_elder' (by (with_reducible repeat (first | apply Kd.V_alloc | apply Kd.V_drewN | apply Kd.V_drew)); exact HO197.out) (Kd.R_base ho17) hb); have n1_ := Aside0.mk (Kd.R_lower ho17 (below_size (by repeat (first | (with_reducible first | exact HB.out | apply below_alloc | apply pw_below_drewN | apply below_drew1) | exact HB.out)))); have n2_ := Aside0.mk (below_step (by repeat (first | (with_reducible first | exact HB.out | apply below_alloc | apply pw_below_drewN | apply below_drew1) | exact HB.out)) hb); clear HO197; clear HB; have HO197 := n0_; have HO202 := n1_; have HB := n2_; clear n0_ n1_ n2_; clear hb ho17) | ((with_reducible refine gate_dst (N := 29) rfl ?_); refine Kd.R_lit (Kd.int .u32) _ 23 ?hg (N := 29) ?hd (xs := ([a2] : List Int)) (inner := [.int .u32 a2]) (ok := fun _ => True) (okp := fun _ => True) ?hr ?hp (fun _ hk => hk) trivial (Below.refl _ _) (Nat.le_refl _) (by simp) ?_; (case hd => rfl); (case hg => rfl); (case hr => first | (go_simp; done) | (go_simp; rfl)); (case hp => exact (Reps.one (show Kd.M (Kd.int .u32) _ _ _ a2 [.int .u32 a2] from rfl) (Reps.none _ _))); intro v204 w18 ho19 hb hg_ hnew_; clear hg_ hnew_; (first | rw [← Ny203.out] at ho19 | (simp only [Int.reduceToNat] at ho19; rw [← Ny203.out] at ho19)); have n0_ := Aside0.mk (Kd.V_elder' (by (with_reducible repeat (first | apply Kd.V_alloc | apply Kd.V_drewN | apply Kd.V_drew)); exact HO197.out) (Kd.R_base ho19) hb); have n1_ := Aside0.mk (Kd.R_elder' (by (with_reducible repeat (first | apply Kd.R_alloc | apply Kd.R_drewN | apply Kd.R_drew)); exact HO202.out) (Kd.R_base ho19) hb); have n2_ := Aside0.mk (Kd.R_lower (Kd.R_new' ho19 (Kd.R_lt (by (with_reducible repeat (first | apply Kd.R_alloc | apply Kd.R_drewN | apply Kd.R_drew)); exact HO202.out))) (below_size (by repeat (first | (with_reducible first | exact HB.out | apply below_alloc | apply pw_below_drewN | apply below_drew1) | exact HB.out)))); have n3_ := Aside0.mk (below_step (by repeat (first | (with_reducible first | exact HB.out | apply below_alloc | apply pw_below_drewN | apply below_drew1) | exact HB.out)) hb); clear HO197; clear HO202; clear HB; have HO197 := n0_; have HO202 := n1_; have HO205 := n2_; have HB := n3_; clear n0_ n1_ n2_ n3_; clear hb ho19; obtain ⟨Ao20, co20, eo20⟩ := Kd.R_slice HO202.out; subst eo20; obtain ⟨Ao21, co21, eo21⟩ := Kd.R_slice HO205.out; subst eo21) | ((with_reducible refine gate_callee (f := 14) rfl ?_); refine goesL_ (some 30) rfl rfl Try.func14 (by kernel_rfl) rfl #[.slice Ao20 y200.length co20, .slice Ao21 y203.length co21] rfl (by (try simp only [List.map_toArray, List.map_cons, List.map_nil]); first | done | rfl | (simp only [List.length_drop, List.length_take]; rfl)) ?_; (with_reducible refine (nat_Add.calls k (fun k_ => some k_ = (.slice Ao20 y200.length co20 : Value).ownBlock) _ _ y200 (fun k_ => some k_ = (.slice Ao21 y203.length co21 : Value).ownBlock) _ _ y203 t206 _ ?side1 ?side2 A8.out).mono ?_); (case side1 => exact Kd.R_V (Kd.R_tight rfl (HO202.out))); (case side2 => exact Kd.R_V (Kd.R_tight rfl (HO205.out))); rintro e w22 ⟨v207, rfl, ho0, hb⟩; refine ⟨_, rfl, ?_⟩; have n0_ := Aside0.mk (Kd.V_below (by (with_reducible repeat (first | apply Kd.V_alloc | apply Kd.V_drewN | apply Kd.V_drew)); exact HO197.out) hb); have n1_ := Aside0.mk (Kd.R_below (by (with_reducible repeat (first | apply Kd.R_alloc | apply Kd.R_drewN | apply Kd.R_drew)); exact HO202.out) hb); have n2_ := Aside0.mk (Kd.R_below (by (with_reducible repeat (first | apply Kd.R_alloc | apply Kd.R_drewN | apply Kd.R_drew)); exact HO205.out) hb); have n3_ := Aside0.mk (Kd.V_lower (Kd.V_mono (ok' := fun k_ => True) ho0 (fun k_ hk_ => trivial)) (below_size (by repeat (first | (with_reducible first | exact HB.out | apply below_alloc | apply pw_below_drewN | apply below_drew1) | exact HB.out)))); have n4_ := Aside0.mk (below_step (by repeat (first | (with_reducible first | exact HB.out | apply below_alloc | apply pw_below_drewN | apply below_drew1) | exact HB.out)) hb); clear HO197; clear HO202; clear HO205; clear HB; have HO197 := n0_; have HO202 := n1_; have HO205 := n2_; have HO208 := n3_; have HB := n4_; clear n0_ n1_ n2_ n3_ n4_; (try clear hb); (try clear hb2); (try clear hk); (try clear hi); (try clear ho0); obtain ⟨Ao23, co23, eo23⟩ := Kd.V_slice HO208.out; subst eo23) | ((with_reducible refine gate_callee (f := 12) rfl ?_); refine goesL_ (some 31) rfl rfl Try.func12 (by kernel_rfl) rfl #[.slice Ao23 t206.length co23] rfl (by (try simp only [List.map_toArray, List.map_cons, List.map_nil]); first | done | rfl | (simp only [List.length_drop, List.length_take]; rfl)) ?_; (with_reducible refine (nat_Small.calls k _ _ t206 t209 t210 _ ?side1 ?side2 A9.out).mono ?_); (case side1 => repeat (first | exact (Kd.V_reads' HO208.out).2.2 | (with_reducible refine Kd.C_alloc ?_ _) | (with_reducible refine Kd.C_drewN ?_ _) | (with_reducible refine Kd.C_drew ?_))); (case side2 => exact (Kd.V_reads' HO208.out).2.1); rintro e w24 ⟨rfl, hb⟩; refine ⟨_, rfl, ?_⟩; have n0_ := Aside0.mk (Kd.V_below (by (with_reducible repeat (first | apply Kd.V_alloc | apply Kd.V_drewN | apply Kd.V_drew)); exact HO197.out) hb); have n1_ := Aside0.mk (Kd.R_below (by (with_reducible repeat (first | apply Kd.R_alloc | apply Kd.R_drewN | apply Kd.R_drew)); exact HO202.out) hb); have n2_ := Aside0.mk (Kd.R_below (by (with_reducible repeat (first | apply Kd.R_alloc | apply Kd.R_drewN | apply Kd.R_drew)); exact HO205.out) hb); have n3_ := Aside0.mk (Kd.V_below (by (with_reducible repeat (first | apply Kd.V_alloc | apply Kd.V_drewN | apply Kd.V_drew)); exact HO208.out) hb); have n4_ := Aside0.mk (below_step (by repeat (first | (with_reducible first | exact HB.out | apply below_alloc | apply pw_below_drewN | apply below_drew1) | exact HB.out)) hb); clear HO197; clear HO202; clear HO205; clear HO208; clear HB; have HO197 := n0_; have HO202 := n1_; have HO205 := n2_; have HO208 := n3_; have HB := n4_; clear n0_ n1_ n2_ n3_ n4_; (try clear hb); (try clear hb2); (try clear hk); (try clear hi)) | ((with_reducible refine gate_dst (N := 36) rfl ?_); refine Kd.R_lit (Kd.int .u32) _ 23 ?hg (N := 36) ?hd (xs := ([a1] : List Int)) (inner := [.int .u32 a1]) (ok := fun _ => True) (okp := fun _ => True) ?hr ?hp (fun _ hk => hk) trivial (Below.refl _ _) (Nat.le_refl _) (by simp) ?_; (case hd => rfl); (case hg => rfl); (case hr => first | (go_simp; done) | (go_simp; rfl)); (case hp => exact (Reps.one (show Kd.M (Kd.int .u32) _ _ _ a1 [.int .u32 a1] from rfl) (Reps.none _ _))); intro v212 w25 ho26 hb hg_ hnew_; clear hg_ hnew_; (first | rw [← Ny211.out] at ho26 | (simp only [Int.reduceToNat] at ho26; rw [← Ny211.out] at ho26)); have n0_ := Aside0.mk (Kd.V_elder' (by (with_reducible repeat (first | apply Kd.V_alloc | apply Kd.V_drewN | apply Kd.V_drew)); exact HO197.out) (Kd.R_base ho26) hb); have n1_ := Aside0.mk (Kd.R_elder' (by (with_reducible repeat (first | apply Kd.R_alloc | apply Kd.R_drewN | apply Kd.R_drew)); exact HO202.out) (Kd.R_base ho26) hb); have n2_ := Aside0.mk (Kd.R_elder' (by (with_reducible repeat (first | apply Kd.R_alloc | apply Kd.R_drewN | apply Kd.R_drew)); exact HO205.out) (Kd.R_base ho26) hb); have n3_ := Aside0.mk (Kd.V_elder' (by (with_reducible repeat (first | apply Kd.V_alloc | apply Kd.V_drewN | apply Kd.V_drew)); exact HO208.out) (Kd.R_base ho26) hb); have n4_ := Aside0.mk (Kd.R_lower (Kd.R_new' (Kd.R_new' ho26 (Kd.R_lt (by (with_reducible repeat (first | apply Kd.R_alloc | apply Kd.R_drewN | apply Kd.R_drew)); exact HO202.out))) (Kd.R_lt (by (with_reducible repeat (first | apply Kd.R_alloc | apply Kd.R_drewN | apply Kd.R_drew)); exact HO205.out))) (below_size (by repeat (first | (with_reducible first | exact HB.out | apply below_alloc | apply pw_below_drewN | apply below_drew1) | exact HB.out)))); have n5_ := Aside0.mk (below_step (by repeat (first | (with_reducible first | exact HB.out | apply below_alloc | apply pw_below_drewN | apply below_drew1) | exact HB.out)) hb); clear HO197; clear HO202; clear HO205; clear HO208; clear HB; have HO197 := n0_; have HO202 := n1_; have HO205 := n2_; have HO208 := n3_; have HO213 := n4_; have HB := n5_; clear n0_ n1_ n2_ n3_ n4_ n5_; clear hb ho26) | ((with_reducible refine gate_dst (N := 38) rfl ?_); refine Kd.R_lit (Kd.int .u32) _ 23 ?hg (N := 38) ?hd (xs := ([a2] : List Int)) (inner := [.int .u32 a2]) (ok := fun _ => True) (okp := fun _ => True) ?hr ?hp (fun _ hk => hk) trivial (Below.refl _ _) (Nat.le_refl _) (by simp) ?_; (case hd => rfl); (case hg => rfl); (case hr => first | (go_simp; done) | (go_simp; rfl)); (case hp => exact (Reps.one (show Kd.M (Kd.int .u32) _ _ _ a2 [.int .u32 a2] from rfl) (Reps.none _ _))); intro v215 w27 ho28 hb hg_ hnew_; clear hg_ hnew_; (first | rw [← Ny214.out] at ho28 | (simp only [Int.reduceToNat] at ho28; rw [← Ny214.out] at ho28)); have n0_ := Aside0.mk (Kd.V_elder' (by (with_reducible repeat (first | apply Kd.V_alloc | apply Kd.V_drewN | apply Kd.V_drew)); exact HO197.out) (Kd.R_base ho28) hb); have n1_ := Aside0.mk (Kd.R_elder' (by (with_reducible repeat (first | apply Kd.R_alloc | apply Kd.R_drewN | apply Kd.R_drew)); exact HO202.out) (Kd.R_base ho28) hb); have n2_ := Aside0.mk (Kd.R_elder' (by (with_reducible repeat (first | apply Kd.R_alloc | apply Kd.R_drewN | apply Kd.R_drew)); exact HO205.out) (Kd.R_base ho28) hb); have n3_ := Aside0.mk (Kd.V_elder' (by (with_reducible repeat (first | apply Kd.V_alloc | apply Kd.V_drewN | apply Kd.V_drew)); exact HO208.out) (Kd.R_base ho28) hb); have n4_ := Aside0.mk (Kd.R_elder' (by (with_reducible repeat (first | apply Kd.R_alloc | apply Kd.R_drewN | apply Kd.R_drew)); exact HO213.out) (Kd.R_base ho28) hb); have n5_ := Aside0.mk (Kd.R_lower (Kd.R_new' (Kd.R_new' (Kd.R_new' ho28 (Kd.R_lt (by (with_reducible repeat (first | apply Kd.R_alloc | apply Kd.R_drewN | apply Kd.R_drew)); exact HO202.out))) (Kd.R_lt (by (with_reducible repeat (first | apply Kd.R_alloc | apply Kd.R_drewN | apply Kd.R_drew)); exact HO205.out))) (Kd.R_lt (by (with_reducible repeat (first | apply Kd.R_alloc | apply Kd.R_drewN | apply Kd.R_drew)); exact HO213.out))) (below_size (by repeat (first | (with_reducible first | exact HB.out | apply below_alloc | apply pw_below_drewN | apply below_drew1) | exact HB.out)))); have n6_ := Aside0.mk (below_step (by repeat (first | (with_reducible first | exact HB.out | apply below_alloc | apply pw_below_drewN | apply below_drew1) | exact HB.out)) hb); clear HO197; clear HO202; clear HO205; clear HO208; clear HO213; clear HB; have HO197 := n0_; have HO202 := n1_; have HO205 := n2_; have HO208 := n3_; have HO213 := n4_; have HO216 := n5_; have HB := n6_; clear n0_ n1_ n2_ n3_ n4_ n5_ n6_; clear hb ho28; obtain ⟨Ao29, co29, eo29⟩ := Kd.R_slice HO213.out; subst eo29; obtain ⟨Ao30, co30, eo30⟩ := Kd.R_slice HO216.out; subst eo30) | ((with_reducible refine gate_callee (f := 15) rfl ?_); refine goesL_ (some 39) rfl rfl Try.func15 (by kernel_rfl) rfl #[.slice Ao29 y211.length co29, .slice Ao30 y214.length co30] rfl (by (try simp only [List.map_toArray, List.map_cons, List.map_nil]); first | done | rfl | (simp only [List.length_drop, List.length_take]; rfl)) ?_; (with_reducible refine (nat_Mul.calls k (fun k_ => some k_ = (.slice Ao29 y211.length co29 : Value).ownBlock) _ _ y211 (fun k_ => some k_ = (.slice Ao30 y214.length co30 : Value).ownBlock) _ _ y214 t217 _ ?side1 ?side2 A10.out).mono ?_); (case side1 => exact Kd.R_V (Kd.R_tight rfl (HO213.out))); (case side2 => exact Kd.R_V (Kd.R_tight rfl (HO216.out))); rintro e w31 ⟨v218, rfl, ho0, hb⟩; refine ⟨_, rfl, ?_⟩; have n0_ := Aside0.mk (Kd.V_below (by (with_reducible repeat (first | apply Kd.V_alloc | apply Kd.V_drewN | apply Kd.V_drew)); exact HO197.out) hb); have n1_ := Aside0.mk (Kd.R_below (by (with_reducible repeat (first | apply Kd.R_alloc | apply Kd.R_drewN | apply Kd.R_drew)); exact HO202.out) hb); have n2_ := Aside0.mk (Kd.R_below (by (with_reducible repeat (first | apply Kd.R_alloc | apply Kd.R_drewN | apply Kd.R_drew)); exact HO205.out) hb); have n3_ := Aside0.mk (Kd.V_below (by (with_reducible repeat (first | apply Kd.V_alloc | apply Kd.V_drewN | apply Kd.V_drew)); exact HO208.out) hb); have n4_ := Aside0.mk (Kd.R_below (by (with_reducible repeat (first | apply Kd.R_alloc | apply Kd.R_drewN | apply Kd.R_drew)); exact HO213.out) hb); have n5_ := Aside0.mk (Kd.R_below (by (with_reducible repeat (first | apply Kd.R_alloc | apply Kd.R_drewN | apply Kd.R_drew)); exact HO216.out) hb); have n6_ := Aside0.mk (Kd.V_lower (Kd.V_mono (ok' := fun k_ => some k_ ≠ (.slice Ao20 y200.length co20 : Value).ownBlock ∧ some k_ ≠ (.slice Ao21 y203.length co21 : Value).ownBlock) ho0 (fun k_ hk_ => ⟨Or.elim hk_ (fun hs_ => Or.elim hs_ (fun hs_ => ((HO213.out).1 k_ hs_.symm).1.1.2) (fun hs_ => ((HO216.out).1 k_ hs_.symm).1.1.2)) (fun hn_ => (Kd.fresh' (Kd.R_lt (by (with_reducible repeat (first | apply Kd.R_alloc | apply Kd.R_drewN | apply Kd.R_drew)); exact HO202.out)) k_ hn_)), Or.elim hk_ (fun hs_ => Or.elim hs_ (fun hs_ => ((HO213.out).1 k_ hs_.symm).1.2) (fun hs_ => ((HO216.out).1 k_ hs_.symm).1.2)) (fun hn_ => (Kd.fresh' (Kd.R_lt (by (with_reducible repeat (first | apply Kd.R_alloc | apply Kd.R_drewN | apply Kd.R_drew)); exact HO205.out)) k_ hn_))⟩)) (below_size (by repeat (first | (with_reducible first | exact HB.out | apply below_alloc | apply pw_below_drewN | apply below_drew1) | exact HB.out)))); have n7_ := Aside0.mk (below_step (by repeat (first | (with_reducible first | exact HB.out | apply below_alloc | apply pw_below_drewN | apply below_drew1) | exact HB.out)) hb); clear HO197; clear HO202; clear HO205; clear HO208; clear HO213; clear HO216; clear HB; have HO197 := n0_; have HO202 := n1_; have HO205 := n2_; have HO208 := n3_; have HO213 := n4_; have HO216 := n5_; have HO219 := n6_; have HB := n7_; clear n0_ n1_ n2_ n3_ n4_ n5_ n6_ n7_; (try clear hb); (try clear hb2); (try clear hk); (try clear hi); (try clear ho0); obtain ⟨Ao32, co32, eo32⟩ := Kd.V_slice HO219.out; subst eo32) | ((with_reducible refine gate_callee (f := 12) rfl ?_); refine goesL_ (some 40) rfl rfl Try.func12 (by kernel_rfl) rfl #[.slice Ao32 t217.length co32] rfl (by (try simp only [List.map_toArray, List.map_cons, List.map_nil]); first | done | rfl | (simp only [List.length_drop, List.length_take]; rfl)) ?_; (with_reducible refine (nat_Small.calls k _ _ t217 t220 t221 _ ?side1 ?side2 A11.out).mono ?_); (case side1 => repeat (first | exact (Kd.V_reads' HO219.out).2.2 | (with_reducible refine Kd.C_alloc ?_ _) | (with_reducible refine Kd.C_drewN ?_ _) | (with_reducible refine Kd.C_drew ?_))); (case side2 => exact (Kd.V_reads' HO219.out).2.1); rintro e w33 ⟨rfl, hb⟩; refine ⟨_, rfl, ?_⟩; have n0_ := Aside0.mk (Kd.V_below (by (with_reducible repeat (first | apply Kd.V_alloc | apply Kd.V_drewN | apply Kd.V_drew)); exact HO197.out) hb); have n1_ := Aside0.mk (Kd.R_below (by (with_reducible repeat (first | apply Kd.R_alloc | apply Kd.R_drewN | apply Kd.R_drew)); exact HO202.out) hb); have n2_ := Aside0.mk (Kd.R_below (by (with_reducible repeat (first | apply Kd.R_alloc | apply Kd.R_drewN | apply Kd.R_drew)); exact HO205.out) hb); have n3_ := Aside0.mk (Kd.V_below (by (with_reducible repeat (first | apply Kd.V_alloc | apply Kd.V_drewN | apply Kd.V_drew)); exact HO208.out) hb); have n4_ := Aside0.mk (Kd.R_below (by (with_reducible repeat (first | apply Kd.R_alloc | apply Kd.R_drewN | apply Kd.R_drew)); exact HO213.out) hb); have n5_ := Aside0.mk (Kd.R_below (by (with_reducible repeat (first | apply Kd.R_alloc | apply Kd.R_drewN | apply Kd.R_drew)); exact HO216.out) hb); have n6_ := Aside0.mk (Kd.V_below (by (with_reducible repeat (first | apply Kd.V_alloc | apply Kd.V_drewN | apply Kd.V_drew)); exact HO219.out) hb); have n7_ := Aside0.mk (below_step (by repeat (first | (with_reducible first | exact HB.out | apply below_alloc | apply pw_below_drewN | apply below_drew1) | exact HB.out)) hb); clear HO197; clear HO202; clear HO205; clear HO208; clear HO213; clear HO216; clear HO219; clear HB; have HO197 := n0_; have HO202 := n1_; have HO205 := n2_; have HO208 := n3_; have HO213 := n4_; have HO216 := n5_; have HO219 := n6_; have HB := n7_; clear n0_ n1_ n2_ n3_ n4_ n5_ n6_ n7_; (try clear hb); (try clear hb2); (try clear hk); (try clear hi)))
    go_loopg [14, 15] k (fun kq v14 v15 w' => ∃ (x14_1 : Int) (x15_1 : Int), v14 = .int .i64 x14_1 ∧ v15 = .int .u64 x15_1 ∧ Aside0 (astrolabelaw01_NatSmalls.l0 kq a0 a1 a2 true t198 t199 t209 t210 t220 t221 x14_1 x15_1 = some r) ∧ Aside0 (kq ≤ k) ∧ Aside0 (Below w.heap.size w w'))
    case atStart => exact ⟨(0), (a0), (by first | rfl | (simp; done) | (simp [*]; done)), (by first | rfl | (simp; done) | (simp [*]; done)), H', ⟨Nat.le_refl _⟩, ⟨by repeat (first | (with_reducible first | exact HB.out | apply below_alloc | apply pw_below_drewN | apply below_drew1) | exact HB.out)⟩⟩
    case round =>
      clear H'
      try clear c1
      try clear p2
      try clear c3
      try clear c5
      try clear c11
      try clear c12
      try clear c13
      try clear c14
      try clear c15
      obtain ⟨x14_1, x15_1, rfl, rfl, HA, HK1, HB⟩ := hrel
      cases gk with
      | zero => exact absurd HA.out (by simp [astrolabelaw01_NatSmalls.l0])
      | succ k1 =>
        have H := HA.out
        clear HA
        simp only [astrolabelaw01_NatSmalls.l0] at H
        by_cases c34 : x15_1 > 0
        · rw [if_pos c34] at H
          have c34b0 : decide (0 < x15_1) = true := decide_eq_true c34
          clear c34
          have H' := Aside0.mk H
          clear H
          go_wp2
          go_roundg k1
          case measure => have := HK1.out; omega
          case rel => exact ⟨(wrap64 (x14_1 + 1)), (IntKind.u64.wrap (Int.tdiv x15_1 2)), (by first | rfl | (simp; done) | (simp [*]; done)), (by first | rfl | (simp; done) | (simp [*]; done)), H', ⟨by have := HK1.out; omega⟩, ⟨by repeat (first | (with_reducible first | exact HB.out | apply below_alloc | apply pw_below_drewN | apply below_drew1) | exact HB.out)⟩⟩
        · rw [if_neg c34] at H
          have c34b0 : decide (0 < x15_1) = false := decide_eq_false c34
          clear c34
          replace H : (if t198 = a0 then (if t199 = true then (if t209 = (IntKind.u64.wrap ((IntKind.u64.wrap (a1)) + (IntKind.u64.wrap (a2)))) then (if t210 = true then (if t220 = (IntKind.u64.wrap ((IntKind.u64.wrap (a1)) * (IntKind.u64.wrap (a2)))) then (if t221 = true then ((nat_From.f k1 a0).bind fun t222 => ((nat_Bits.f k1 t222).bind fun t225 => (some (t225 == x14_1)))) else (none)) else (none)) else (none)) else (none)) else (none)) else (none)) = some r := by first | exact H | (rw [if_pos rfl] at H; exact H)
          by_cases c35 : t198 = a0
          · rw [if_pos c35] at H
            have c35b0 : (t198 == a0) = true := beq_iff_eq.mpr c35
            have c35b1 : (t198 != a0) = false := bne_eq_false_iff_eq.mpr c35
            clear c35
            by_cases c36 : t199 = true
            · subst c36
              have H1 : (if t209 = (IntKind.u64.wrap ((IntKind.u64.wrap (a1)) + (IntKind.u64.wrap (a2)))) then (if t210 = true then (if t220 = (IntKind.u64.wrap ((IntKind.u64.wrap (a1)) * (IntKind.u64.wrap (a2)))) then (if t221 = true then ((nat_From.f k1 a0).bind fun t222 => ((nat_Bits.f k1 t222).bind fun t225 => (some (t225 == x14_1)))) else (none)) else (none)) else (none)) else (none)) = some r := by rw [if_pos rfl] at H; exact H
              clear H
              have H := H1
              clear H1
              by_cases c37 : t209 = (IntKind.u64.wrap ((IntKind.u64.wrap (a1)) + (IntKind.u64.wrap (a2))))
              · rw [if_pos c37] at H
                have c37b0 : (t209 == (IntKind.u64.wrap ((IntKind.u64.wrap (a1)) + (IntKind.u64.wrap (a2))))) = true := beq_iff_eq.mpr c37
                have c37b1 : (t209 != (IntKind.u64.wrap ((IntKind.u64.wrap (a1)) + (IntKind.u64.wrap (a2))))) = false := bne_eq_false_iff_eq.mpr c37
                clear c37
                by_cases c38 : t210 = true
                · subst c38
                  have H1 : (if t220 = (IntKind.u64.wrap ((IntKind.u64.wrap (a1)) * (IntKind.u64.wrap (a2)))) then (if t221 = true then ((nat_From.f k1 a0).bind fun t222 => ((nat_Bits.f k1 t222).bind fun t225 => (some (t225 == x14_1)))) else (none)) else (none)) = some r := by rw [if_pos rfl] at H; exact H
                  clear H
                  have H := H1
                  clear H1
                  by_cases c39 : t220 = (IntKind.u64.wrap ((IntKind.u64.wrap (a1)) * (IntKind.u64.wrap (a2))))
                  · rw [if_pos c39] at H
                    have c39b0 : (t220 == (IntKind.u64.wrap ((IntKind.u64.wrap (a1)) * (IntKind.u64.wrap (a2))))) = true := beq_iff_eq.mpr c39
                    have c39b1 : (t220 != (IntKind.u64.wrap ((IntKind.u64.wrap (a1)) * (IntKind.u64.wrap (a2))))) = false := bne_eq_false_iff_eq.mpr c39
                    clear c39
                    by_cases c40 : t221 = true
                    · subst c40
                      have H1 : ((nat_From.f k1 a0).bind fun t222 => ((nat_Bits.f k1 t222).bind fun t225 => (some (t225 == x14_1)))) = some r := by rw [if_pos rfl] at H; exact H
                      clear H
                      have H := H1
                      clear H1
                      replace H := Option.bind_eq_some_iff.mp H
                      obtain ⟨t222, A410, H⟩ := H
                      replace H : ((nat_Bits.f k1 t222).bind fun t225 => (some (t225 == x14_1))) = some r := H
                      have A41 := Aside0.mk A410
                      clear A410
                      replace H := Option.bind_eq_some_iff.mp H
                      obtain ⟨t225, A420, H⟩ := H
                      replace H : (some (t225 == x14_1)) = some r := H
                      have A42 := Aside0.mk A420
                      clear A420
                      obtain rfl := Option.some.inj H
                      go_wp2_with (first | (go_at_call 13; (with_reducible refine (nat_From.calls k1 a0 t222 _ A41.out).mono ?_); rintro e w43 ⟨v223, rfl, ho0, hb⟩; have n0_ := Aside0.mk (Kd.V_lower (Kd.V_mono (ok' := fun k_ => True) ho0 (fun k_ hk_ => trivial)) (below_size (by repeat (first | (with_reducible first | exact HB.out | apply below_alloc | apply pw_below_drewN | apply below_drew1) | exact HB.out)))); have n1_ := Aside0.mk (below_step (by repeat (first | (with_reducible first | exact HB.out | apply below_alloc | apply pw_below_drewN | apply below_drew1) | exact HB.out)) hb); clear HB; have HO224 := n0_; have HB := n1_; clear n0_ n1_; (try clear hb); (try clear hb2); (try clear hk); (try clear hi); (try clear ho0); obtain ⟨Ao44, co44, eo44⟩ := Kd.V_slice HO224.out; subst eo44) | (go_at_call 16; (with_reducible refine (nat_Bits.calls k1 _ _ t222 t225 _ ?side1 ?side2 A42.out).mono ?_); (case side1 => repeat (first | exact (Kd.V_reads' HO224.out).2.2 | (with_reducible refine Kd.C_alloc ?_ _) | (with_reducible refine Kd.C_drewN ?_ _) | (with_reducible refine Kd.C_drew ?_))); (case side2 => exact (Kd.V_reads' HO224.out).2.1); rintro e w45 ⟨rfl, hb⟩; have n0_ := Aside0.mk (Kd.V_below (by (with_reducible repeat (first | apply Kd.V_alloc | apply Kd.V_drewN | apply Kd.V_drew)); exact HO224.out) hb); have n1_ := Aside0.mk (below_step (by repeat (first | (with_reducible first | exact HB.out | apply below_alloc | apply pw_below_drewN | apply below_drew1) | exact HB.out)) hb); clear HO224; clear HB; have HO224 := n0_; have HB := n1_; clear n0_ n1_; (try clear hb); (try clear hb2); (try clear hk); (try clear hi)))
                      go_ret
                      exact ⟨by first | rfl | (simp [errW_none, errW_some] <;> rfl) | (simp [*, errW_none, errW_some] <;> rfl), by repeat (first | (with_reducible first | exact HB.out | apply below_alloc | apply pw_below_drewN | apply below_drew1) | exact HB.out)⟩
                    · replace c40 := Bool.eq_false_iff.mpr c40
                      subst c40
                      have H1 : (none) = some r := by rw [if_neg (show ¬ (false = true) by decide)] at H; exact H
                      clear H
                      have H := H1
                      clear H1
                      exact absurd H (by simp)
                  · rw [if_neg c39] at H
                    exact absurd H (by simp)
                · replace c38 := Bool.eq_false_iff.mpr c38
                  subst c38
                  have H1 : (none) = some r := by rw [if_neg (show ¬ (false = true) by decide)] at H; exact H
                  clear H
                  have H := H1
                  clear H1
                  exact absurd H (by simp)
              · rw [if_neg c37] at H
                exact absurd H (by simp)
            · replace c36 := Bool.eq_false_iff.mpr c36
              subst c36
              have H1 : (none) = some r := by rw [if_neg (show ¬ (false = true) by decide)] at H; exact H
              clear H
              have H := H1
              clear H1
              exact absurd H (by simp)
          · rw [if_neg c35] at H
            exact absurd H (by simp)
  · replace c5 := Bool.eq_false_iff.mpr c5
    subst c5
    have H1 : (none) = some r := by rw [if_neg (show ¬ (false = true) by decide)] at H; exact H
    clear H
    have H := H1
    clear H1
    exact absurd H (by simp)

/-- THE ONE PURE STATEMENT of astrolabelaw01_NatSmalls: yours. -/
def astrolabelaw01_NatSmalls.Pure : Prop := ∀ (a0 : Int) (a1 : Int) (a2 : Int), (Lit.int .u64 a0).wf = true → (Lit.int .u32 a1).wf = true → (Lit.int .u32 a2).wf = true → ∃ k, astrolabelaw01_NatSmalls.f k a0 a1 a2 = some true
theorem astrolabelaw01_NatSmalls.walk (P : astrolabelaw01_NatSmalls.Pure) (a0 : Int) (a1 : Int) (a2 : Int) (w : World) (w0 : (Lit.int .u64 a0).wf = true) (w1 : (Lit.int .u32 a1).wf = true) (w2 : (Lit.int .u32 a2).wf = true) :
    Calls Try.prog 3 #[.int .u64 a0, .int .u32 a1, .int .u32 a2] w fun e w' => e = .returned (.bool true) ∧ Below w.heap.size w w' := by
  obtain ⟨k, h⟩ := P a0 a1 a2 w0 w1 w2
  refine (astrolabelaw01_NatSmalls.calls k a0 a1 a2 true w h).mono ?_
  rintro e w' ⟨rfl, hd⟩
  exact ⟨rfl, hd⟩

end Go.Proofs.Ytmkffnhgcpdbaaa.P
