/- What the Go functions of these names come to, as plain Lean functions, and the walks that show it. Written for this claim by a turned copy of the print program; Lean checks it. -/
import Derived.Test.YtpodpfppbkjbcaaP0
import Derived.Test.YtpodpfppbkjbcaaP1
import Derived.Test.YtpodpfppbkjbcaaP2
import Derived.Test.YtpodpfppbkjbcaaP5
namespace Go.Proofs.Ytpodpfppbkjbcaa.P
open Go.RowKit Go.Proofs.YtpodpfppbkjbcaaW.PrintWords Go.Proofs.YtpodpfppbkjbcaaW.PrintLast Go.Proofs.YtpodpfppbkjbcaaW.PrintMore
attribute [local go_sem] max2_int min2_int max_two min_two max_three min_three max_four min_four   -- for this text's walks alone
set_option linter.unusedVariables false
set_option linter.unusedSimpArgs false

/-- A call of a function value that has caught some variables, by its contract. -/
theorem goesV_ {P : Program} {ops : Array Oper} {Q : Exit → Act → World → Prop} {oi : Oper} {N : Option Tmp} {a : Act} {w : World} {K : Act → World → Prop} {f : FuncId} {fn : Func} {x : Operand} {os : Array Operand} {ts : Array TypeId} (hf : P.funcs[f]? = some fn) (hname : (fn.name == "runtime.NumGoroutine") = false) (hb : fn.body.isSome = true) (args cap all : Array Value) (hall : args ++ cap = all)
    (hw : Region.wanted oi (yielded ops a.tmps) = true) (hN : oi.dst = N) (hop : oi.op = .call { callee := .value x, args := os, argTypes := ts }) (hx : a.eval x = .func (.func f) #[] cap) (hargs : os.map a.eval = args)
    (h : Calls P f all w fun e w' => ∃ v, e = .returned v ∧ K (a.put N v) w') : if Region.wanted oi (yielded ops a.tmps) = true then Oper.wp P oi a w K Q else K (a.put N undef) w := by
  subst hall
  refine call_ f (args ++ cap) hw hN ?_ h
  have he := enters_ hf hname hb (args ++ cap) w
  unfold execOp
  simp [hop, resolve, Deferred.ofValue, invoke, hargs, hx, he]

/-! ### kara_Mul_1: function 19 -/
def kara_Mul_1.f : Nat → List Int → List Int → Option (List Int)
  | 0, _, _ => none
  | k + 1, l0, l1 => if (mn (l0.length : Int) (l1.length : Int)) < 8 then ((nat_Mul.f k l0 l1).bind fun t179 => (some t179)) else ((kara_part.f k l0 0 (wrap64 (Int.tdiv (wrap64 ((mx (l0.length : Int) (l1.length : Int)) + 1)) 2))).bind fun t182 => ((kara_part.f k l1 0 (wrap64 (Int.tdiv (wrap64 ((mx (l0.length : Int) (l1.length : Int)) + 1)) 2))).bind fun t185 => ((kara_Mul_1.f k t182 t185).bind fun t188 => ((kara_part.f k l0 (wrap64 (Int.tdiv (wrap64 ((mx (l0.length : Int) (l1.length : Int)) + 1)) 2)) (mx (l0.length : Int) (l1.length : Int))).bind fun t191 => ((kara_part.f k l1 (wrap64 (Int.tdiv (wrap64 ((mx (l0.length : Int) (l1.length : Int)) + 1)) 2)) (mx (l0.length : Int) (l1.length : Int))).bind fun t194 => ((kara_Mul_1.f k t191 t194).bind fun t197 => ((kara_part.f k l0 0 (wrap64 (Int.tdiv (wrap64 ((mx (l0.length : Int) (l1.length : Int)) + 1)) 2))).bind fun t200 => ((kara_part.f k l0 (wrap64 (Int.tdiv (wrap64 ((mx (l0.length : Int) (l1.length : Int)) + 1)) 2)) (mx (l0.length : Int) (l1.length : Int))).bind fun t203 => ((nat_Add.f k t200 t203).bind fun t206 => ((kara_part.f k l1 0 (wrap64 (Int.tdiv (wrap64 ((mx (l0.length : Int) (l1.length : Int)) + 1)) 2))).bind fun t209 => ((kara_part.f k l1 (wrap64 (Int.tdiv (wrap64 ((mx (l0.length : Int) (l1.length : Int)) + 1)) 2)) (mx (l0.length : Int) (l1.length : Int))).bind fun t212 => ((nat_Add.f k t209 t212).bind fun t215 => ((kara_Mul_1.f k t206 t215).bind fun t218 => ((nat_Sub.f k t218 t188).bind fun bt221 => ((nat_Sub.f k bt221.1 t197).bind fun bt225 => (if 0 ≤ (wrap64 ((wrap64 (2 * (mx (l0.length : Int) (l1.length : Int)))) + 2)) then (if (wrap64 ((wrap64 (2 * (mx (l0.length : Int) (l1.length : Int)))) + 2) : Int).toNat ≤ 70368744177664 then ((kara_add.f k (List.replicate (wrap64 ((wrap64 (2 * (mx (l0.length : Int) (l1.length : Int)))) + 2) : Int).toNat 0) t188 0).bind fun t232 => ((kara_add.f k t232 bt225.1 (wrap64 (Int.tdiv (wrap64 ((mx (l0.length : Int) (l1.length : Int)) + 1)) 2))).bind fun t233 => ((kara_add.f k t233 t197 (wrap64 (2 * (wrap64 (Int.tdiv (wrap64 ((mx (l0.length : Int) (l1.length : Int)) + 1)) 2))))).bind fun t234 => ((nat_Trim.f k t234).bind fun t235 => (some t235))))) else (none)) else (none)))))))))))))))))
theorem kara_Mul_1.mono_l : ∀ k, (∀ y0 y1, LeO (kara_Mul_1.f k y0 y1) (kara_Mul_1.f (k + 1) y0 y1))
  | 0 => fun _ _ r h => by simp [kara_Mul_1.f] at h
  | k + 1 => by
    have ih0 := kara_Mul_1.mono_l k
    · intro y0 y1
      unfold kara_Mul_1.f
      repeat' first
      | (with_reducible exact ih0 _ _)
      | (with_reducible exact kara_add.mono _ _ _ _)
      | (with_reducible exact kara_part.mono _ _ _ _)
      | (with_reducible exact nat_Add.mono _ _ _)
      | (with_reducible exact nat_Mul.mono _ _ _)
      | (with_reducible exact nat_Sub.mono _ _ _)
      | (with_reducible exact nat_Trim.mono _ _)
      | (with_reducible exact LeO.refl _)
      | (with_reducible exact LeO.none _)
      | (with_reducible refine LeO.ite ?_ ?_)
      | (with_reducible refine LeO.bind ?_ (fun _ => ?_))
      | exact ih0 _ _
      | exact kara_add.mono _ _ _ _
      | exact kara_part.mono _ _ _ _
      | exact nat_Add.mono _ _ _
      | exact nat_Mul.mono _ _ _
      | exact nat_Sub.mono _ _ _
      | exact nat_Trim.mono _ _
      | exact LeO.none _
      | refine LeO.ite ?_ ?_
      | refine LeO.bind ?_ (fun _ => ?_)
theorem kara_Mul_1.mono : ∀ a0 a1 k, LeO (kara_Mul_1.f k a0 a1) (kara_Mul_1.f (k + 1) a0 a1) := by
  intro a0 a1 k
  have ih0 := kara_Mul_1.mono_l k
  exact ih0 a0 a1
def kara_Mul_1.T5 : Bool × List (List Nat × List Nat) := (true, [([], []), ([], []), ([], []), ([1, 2], [1, 2]), ([], []), ([], []), ([4, 5, 3], [4, 5]), ([0, 3, 6, 6], [0, 3, 6]), ([7, 7, 0, 1, 2, 3, 4, 5, 6, 7], [7])])
def kara_Mul_1.B5 : List Nat := [0, 0, 0, 6, 0, 0, 62, 127, 255]
theorem kara_Mul_1.tab5 : rtab .any (opsOf Try.f19 5) = kara_Mul_1.T5 := by kernel_rfl
theorem kara_Mul_1.bits5 : waitsOk kara_Mul_1.T5.2 kara_Mul_1.B5 = true := by kernel_rfl
def kara_Mul_1.T6 : Bool × List (List Nat × List Nat) := (true, [([], []), ([], []), ([], []), ([], []), ([1, 2, 3], [1, 2, 3]), ([], []), ([], []), ([], []), ([5, 6, 7, 4], [5, 6, 7]), ([0, 4, 8, 8], [0, 4, 8]), ([9, 9, 0, 1, 2, 3, 4, 5, 6, 7, 8, 9], [9])])
def kara_Mul_1.B6 : List Nat := [0, 0, 0, 0, 14, 0, 0, 0, 254, 511, 1023]
theorem kara_Mul_1.tab6 : rtab .any (opsOf Try.f19 6) = kara_Mul_1.T6 := by kernel_rfl
theorem kara_Mul_1.bits6 : waitsOk kara_Mul_1.T6.2 kara_Mul_1.B6 = true := by kernel_rfl
def kara_Mul_1.T7 : Bool × List (List Nat × List Nat) := (true, [([], []), ([], []), ([], []), ([1, 2], [1, 2]), ([], []), ([], []), ([], []), ([4, 5, 6, 3], [4, 5, 6]), ([3, 7, 7], [3, 7]), ([], []), ([], []), ([9, 10, 8], [9, 10]), ([], []), ([], []), ([], []), ([12, 13, 14, 11], [12, 13, 14]), ([11, 15, 15], [11, 15]), ([0, 8, 16, 16], [0, 8, 16]), ([17, 17, 0, 1, 2, 3, 4, 5, 6, 7, 8, 9, 10, 11, 12, 13, 14, 15, 16, 17], [17])])
def kara_Mul_1.B7 : List Nat := [0, 0, 0, 6, 0, 0, 0, 126, 254, 0, 0, 2046, 0, 0, 0, 32766, 65534, 131071, 262143]
theorem kara_Mul_1.tab7 : rtab .any (opsOf Try.f19 7) = kara_Mul_1.T7 := by kernel_rfl
theorem kara_Mul_1.bits7 : waitsOk kara_Mul_1.T7.2 kara_Mul_1.B7 = true := by kernel_rfl
set_option maxHeartbeats 8000000 in
set_option maxRecDepth 100000 in
theorem kara_Mul_1.calls (B_ : Nat) (k : Nat) : ∀ (P0_ : Nat → Prop) (A0 : Option Addr) (c0 : Nat) (l0 : List Int) (P1_ : Nat → Prop) (A1 : Option Addr) (c1 : Nat) (l1 : List Int) (r : List Int) (w : World) (hB_ : w.cell? ⟨B_, 0, none⟩ = some (.func (.func 19) #[] #[.pointer (some ⟨B_, 0, none⟩)] : Value)) (hs0 : Kd.V (Kd.int .u32) 31 w w.heap.size (fun k_ => P0_ k_) (.slice A0 l0.length c0) l0) (hs1 : Kd.V (Kd.int .u32) 31 w w.heap.size (fun k_ => P1_ k_) (.slice A1 l1.length c1) l1) (h : kara_Mul_1.f k l0 l1 = some r),
    Calls Try.prog 19 #[.slice A0 l0.length c0, .slice A1 l1.length c1, .pointer (some ⟨B_, 0, none⟩)] w fun e w' => ∃ v0_ : Value, e = .returned (v0_) ∧ Kd.V (Kd.int .u32) 31 w' w.heap.size (fun k_ => ((P0_ k_ ∨ P1_ k_) ∨ w.heap.size ≤ k_)) v0_ r ∧ Below w.heap.size w w' := by
  induction k using Nat.strongRecOn with
  | _ k ih =>
  intro P0_ A0 c0 l0 P1_ A1 c1 l1 r w hB_ hs0 hs1 h
  have HBc_ := Aside0.mk hB_
  have HBl_ := Aside0.mk (World.block_lt_of_cell? _ _ hB_)
  clear hB_
  cases k with
  | zero => exact absurd h (by simp [kara_Mul_1.f])
  | succ k =>
  simp only [kara_Mul_1.f] at h
  have HO0 := Aside0.mk (show Kd.V (Kd.int .u32) 31 w w.heap.size (fun k_ => ((P0_ k_ ∨ P1_ k_) ∨ w.heap.size ≤ k_)) (.slice A0 l0.length c0) l0 from Kd.V_mono hs0 (fun k_ hk => .inl (.inl hk)))
  have HO1 := Aside0.mk (show Kd.V (Kd.int .u32) 31 w w.heap.size (fun k_ => ((P0_ k_ ∨ P1_ k_) ∨ w.heap.size ≤ k_)) (.slice A1 l1.length c1) l1 from Kd.V_mono hs1 (fun k_ hk => .inl (.inr hk)))
  have HB := Aside0.mk (Below.refl w.heap.size w)
  have H : (if (mn (l0.length : Int) (l1.length : Int)) < 8 then ((nat_Mul.f k l0 l1).bind fun t179 => (some t179)) else ((kara_part.f k l0 0 (wrap64 (Int.tdiv (wrap64 ((mx (l0.length : Int) (l1.length : Int)) + 1)) 2))).bind fun t182 => ((kara_part.f k l1 0 (wrap64 (Int.tdiv (wrap64 ((mx (l0.length : Int) (l1.length : Int)) + 1)) 2))).bind fun t185 => ((kara_Mul_1.f k t182 t185).bind fun t188 => ((kara_part.f k l0 (wrap64 (Int.tdiv (wrap64 ((mx (l0.length : Int) (l1.length : Int)) + 1)) 2)) (mx (l0.length : Int) (l1.length : Int))).bind fun t191 => ((kara_part.f k l1 (wrap64 (Int.tdiv (wrap64 ((mx (l0.length : Int) (l1.length : Int)) + 1)) 2)) (mx (l0.length : Int) (l1.length : Int))).bind fun t194 => ((kara_Mul_1.f k t191 t194).bind fun t197 => ((kara_part.f k l0 0 (wrap64 (Int.tdiv (wrap64 ((mx (l0.length : Int) (l1.length : Int)) + 1)) 2))).bind fun t200 => ((kara_part.f k l0 (wrap64 (Int.tdiv (wrap64 ((mx (l0.length : Int) (l1.length : Int)) + 1)) 2)) (mx (l0.length : Int) (l1.length : Int))).bind fun t203 => ((nat_Add.f k t200 t203).bind fun t206 => ((kara_part.f k l1 0 (wrap64 (Int.tdiv (wrap64 ((mx (l0.length : Int) (l1.length : Int)) + 1)) 2))).bind fun t209 => ((kara_part.f k l1 (wrap64 (Int.tdiv (wrap64 ((mx (l0.length : Int) (l1.length : Int)) + 1)) 2)) (mx (l0.length : Int) (l1.length : Int))).bind fun t212 => ((nat_Add.f k t209 t212).bind fun t215 => ((kara_Mul_1.f k t206 t215).bind fun t218 => ((nat_Sub.f k t218 t188).bind fun bt221 => ((nat_Sub.f k bt221.1 t197).bind fun bt225 => (if 0 ≤ (wrap64 ((wrap64 (2 * (mx (l0.length : Int) (l1.length : Int)))) + 2)) then (if (wrap64 ((wrap64 (2 * (mx (l0.length : Int) (l1.length : Int)))) + 2) : Int).toNat ≤ 70368744177664 then ((kara_add.f k (List.replicate (wrap64 ((wrap64 (2 * (mx (l0.length : Int) (l1.length : Int)))) + 2) : Int).toNat 0) t188 0).bind fun t232 => ((kara_add.f k t232 bt225.1 (wrap64 (Int.tdiv (wrap64 ((mx (l0.length : Int) (l1.length : Int)) + 1)) 2))).bind fun t233 => ((kara_add.f k t233 t197 (wrap64 (2 * (wrap64 (Int.tdiv (wrap64 ((mx (l0.length : Int) (l1.length : Int)) + 1)) 2))))).bind fun t234 => ((nat_Trim.f k t234).bind fun t235 => (some t235))))) else (none)) else (none)))))))))))))))))) = some r := h
  clear h
  obtain ⟨ji3, hji3⟩ : ∃ j_ : Int, (mx (l0.length : Int) (l1.length : Int)) = j_ := ⟨_, rfl⟩
  replace H : (if (mn (l0.length : Int) (l1.length : Int)) < 8 then ((nat_Mul.f k l0 l1).bind fun t179 => (some t179)) else ((kara_part.f k l0 0 (wrap64 (Int.tdiv (wrap64 ((ji3) + 1)) 2))).bind fun t182 => ((kara_part.f k l1 0 (wrap64 (Int.tdiv (wrap64 ((ji3) + 1)) 2))).bind fun t185 => ((kara_Mul_1.f k t182 t185).bind fun t188 => ((kara_part.f k l0 (wrap64 (Int.tdiv (wrap64 ((ji3) + 1)) 2)) (ji3)).bind fun t191 => ((kara_part.f k l1 (wrap64 (Int.tdiv (wrap64 ((ji3) + 1)) 2)) (ji3)).bind fun t194 => ((kara_Mul_1.f k t191 t194).bind fun t197 => ((kara_part.f k l0 0 (wrap64 (Int.tdiv (wrap64 ((ji3) + 1)) 2))).bind fun t200 => ((kara_part.f k l0 (wrap64 (Int.tdiv (wrap64 ((ji3) + 1)) 2)) (ji3)).bind fun t203 => ((nat_Add.f k t200 t203).bind fun t206 => ((kara_part.f k l1 0 (wrap64 (Int.tdiv (wrap64 ((ji3) + 1)) 2))).bind fun t209 => ((kara_part.f k l1 (wrap64 (Int.tdiv (wrap64 ((ji3) + 1)) 2)) (ji3)).bind fun t212 => ((nat_Add.f k t209 t212).bind fun t215 => ((kara_Mul_1.f k t206 t215).bind fun t218 => ((nat_Sub.f k t218 t188).bind fun bt221 => ((nat_Sub.f k bt221.1 t197).bind fun bt225 => (if 0 ≤ (wrap64 ((wrap64 (2 * (ji3))) + 2)) then (if (wrap64 ((wrap64 (2 * (ji3))) + 2) : Int).toNat ≤ 70368744177664 then ((kara_add.f k (List.replicate (wrap64 ((wrap64 (2 * (ji3))) + 2) : Int).toNat 0) t188 0).bind fun t232 => ((kara_add.f k t232 bt225.1 (wrap64 (Int.tdiv (wrap64 ((ji3) + 1)) 2))).bind fun t233 => ((kara_add.f k t233 t197 (wrap64 (2 * (wrap64 (Int.tdiv (wrap64 ((ji3) + 1)) 2))))).bind fun t234 => ((nat_Trim.f k t234).bind fun t235 => (some t235))))) else (none)) else (none)))))))))))))))))) = some r := by first | (rw [hji3] at H; exact H) | (simp only [hji3] at H ⊢; exact H)
  (try (have hji3l : 0 ≤ ji3 := by (rw [← hji3]; unfold mx; (repeat' split) <;> omega)))
  (try (have hji3m : 0 ≤ ji3 := by omega))
  have hji3_ : (if (l0.length : Int) < (l1.length : Int) then (l1.length : Int) else (l0.length : Int)) = ji3 := hji3
  have hji3n : (if l0.length < l1.length then ((l1.length : Nat) : Int) else ((l0.length : Nat) : Int)) = ji3 := by rw [← hji3]; unfold mx; split <;> split <;> omega
  obtain ⟨ji4, hji4⟩ : ∃ j_ : Int, (mn (l0.length : Int) (l1.length : Int)) = j_ := ⟨_, rfl⟩
  replace H : (if (ji4) < 8 then ((nat_Mul.f k l0 l1).bind fun t179 => (some t179)) else ((kara_part.f k l0 0 (wrap64 (Int.tdiv (wrap64 ((ji3) + 1)) 2))).bind fun t182 => ((kara_part.f k l1 0 (wrap64 (Int.tdiv (wrap64 ((ji3) + 1)) 2))).bind fun t185 => ((kara_Mul_1.f k t182 t185).bind fun t188 => ((kara_part.f k l0 (wrap64 (Int.tdiv (wrap64 ((ji3) + 1)) 2)) (ji3)).bind fun t191 => ((kara_part.f k l1 (wrap64 (Int.tdiv (wrap64 ((ji3) + 1)) 2)) (ji3)).bind fun t194 => ((kara_Mul_1.f k t191 t194).bind fun t197 => ((kara_part.f k l0 0 (wrap64 (Int.tdiv (wrap64 ((ji3) + 1)) 2))).bind fun t200 => ((kara_part.f k l0 (wrap64 (Int.tdiv (wrap64 ((ji3) + 1)) 2)) (ji3)).bind fun t203 => ((nat_Add.f k t200 t203).bind fun t206 => ((kara_part.f k l1 0 (wrap64 (Int.tdiv (wrap64 ((ji3) + 1)) 2))).bind fun t209 => ((kara_part.f k l1 (wrap64 (Int.tdiv (wrap64 ((ji3) + 1)) 2)) (ji3)).bind fun t212 => ((nat_Add.f k t209 t212).bind fun t215 => ((kara_Mul_1.f k t206 t215).bind fun t218 => ((nat_Sub.f k t218 t188).bind fun bt221 => ((nat_Sub.f k bt221.1 t197).bind fun bt225 => (if 0 ≤ (wrap64 ((wrap64 (2 * (ji3))) + 2)) then (if (wrap64 ((wrap64 (2 * (ji3))) + 2) : Int).toNat ≤ 70368744177664 then ((kara_add.f k (List.replicate (wrap64 ((wrap64 (2 * (ji3))) + 2) : Int).toNat 0) t188 0).bind fun t232 => ((kara_add.f k t232 bt225.1 (wrap64 (Int.tdiv (wrap64 ((ji3) + 1)) 2))).bind fun t233 => ((kara_add.f k t233 t197 (wrap64 (2 * (wrap64 (Int.tdiv (wrap64 ((ji3) + 1)) 2))))).bind fun t234 => ((nat_Trim.f k t234).bind fun t235 => (some t235))))) else (none)) else (none)))))))))))))))))) = some r := by first | (rw [hji4] at H; exact H) | (simp only [hji4] at H ⊢; exact H)
  (try (have hji4l : 0 ≤ ji4 := by (rw [← hji4]; unfold mn; (repeat' split) <;> omega)))
  (try (have hji4m : 0 ≤ ji4 := by omega))
  have hji4_ : (if (l1.length : Int) < (l0.length : Int) then (l1.length : Int) else (l0.length : Int)) = ji4 := hji4
  have hji4n : (if l1.length < l0.length then ((l1.length : Nat) : Int) else ((l0.length : Nat) : Int)) = ji4 := by rw [← hji4]; unfold mn; split <;> split <;> omega
  by_cases c5 : (ji4) < 8
  · rw [if_pos c5] at H
    have c5b0 : decide ((ji4) < 8) = true := decide_eq_true c5
    clear c5
    replace H := Option.bind_eq_some_iff.mp H
    obtain ⟨t179, A60, H⟩ := H
    replace H : (some t179) = some r := H
    have A6 := Aside0.mk A60
    clear A60
    obtain rfl := Option.some.inj H
    go_enter Try.func19, Try.ntmps19
    go_wp2_with (first | ((with_reducible refine gate_callee (f := 20) rfl ?_); refine goesL_ (some 25) rfl rfl Try.func20 (by kernel_rfl) rfl #[.slice A0 l0.length c0, .slice A1 l1.length c1] rfl (by (try simp only [List.map_toArray, List.map_cons, List.map_nil]); first | done | rfl | (simp only [List.length_drop, List.length_take]; rfl)) ?_; (with_reducible refine (nat_Mul.calls k (fun k_ => ((P0_ k_ ∨ P1_ k_) ∨ w.heap.size ≤ k_)) _ _ l0 (fun k_ => ((P0_ k_ ∨ P1_ k_) ∨ w.heap.size ≤ k_)) _ _ l1 t179 _ ?side1 ?side2 A6.out).mono ?_); (case side1 => exact HO0.out); (case side2 => exact HO1.out); rintro e w7 ⟨v180, rfl, ho0, hb⟩; refine ⟨_, rfl, ?_⟩; have n0_ := Aside0.mk (Kd.V_below (by (with_reducible repeat (first | apply Kd.V_alloc | apply Kd.V_drewN | apply Kd.V_drew)); exact HO0.out) hb); have n1_ := Aside0.mk (Kd.V_below (by (with_reducible repeat (first | apply Kd.V_alloc | apply Kd.V_drewN | apply Kd.V_drew)); exact HO1.out) hb); have n2_ := Aside0.mk (Kd.V_lower (Kd.V_mono (ok' := fun k_ => ((P0_ k_ ∨ P1_ k_) ∨ w.heap.size ≤ k_)) ho0 (fun k_ hk_ => Or.elim hk_ (fun hs_ => Or.elim hs_ (fun hs_ => hs_) (fun hs_ => hs_)) (fun hn_ => (.inr (Nat.le_trans (below_size (by repeat (first | (with_reducible first | exact HB.out | apply below_alloc | apply pw_below_drewN | apply below_drew1) | exact HB.out))) hn_))))) (below_size (by repeat (first | (with_reducible first | exact HB.out | apply below_alloc | apply pw_below_drewN | apply below_drew1) | exact HB.out)))); have n3_ := Aside0.mk (below_step (by repeat (first | (with_reducible first | exact HB.out | apply below_alloc | apply pw_below_drewN | apply below_drew1) | exact HB.out)) hb); clear HO0; clear HO1; clear HB; have HO0 := n0_; have HO1 := n1_; have HO181 := n2_; have HB := n3_; clear n0_ n1_ n2_ n3_; (try clear hb); (try clear hb2); (try clear hk); (try clear hi); (try clear ho0)))
    go_ret
    exact ⟨_, by first | rfl | (simp [errW_none, errW_some] <;> rfl) | (simp only [← hji3, ← hji4]; first | rfl | (simp [errW_none, errW_some] <;> rfl)) | (simp [*, errW_none, errW_some] <;> rfl), by (with_reducible repeat (first | apply Kd.V_alloc | apply Kd.V_drewN | apply Kd.V_drew)); exact HO181.out, by repeat (first | (with_reducible first | exact HB.out | apply below_alloc | apply pw_below_drewN | apply below_drew1) | exact HB.out)⟩
  · rw [if_neg c5] at H
    have c5b0 : decide ((ji4) < 8) = false := decide_eq_false c5
    clear c5
    replace H := Option.bind_eq_some_iff.mp H
    obtain ⟨t182, A80, H⟩ := H
    replace H : ((kara_part.f k l1 0 (wrap64 (Int.tdiv (wrap64 ((ji3) + 1)) 2))).bind fun t185 => ((kara_Mul_1.f k t182 t185).bind fun t188 => ((kara_part.f k l0 (wrap64 (Int.tdiv (wrap64 ((ji3) + 1)) 2)) (ji3)).bind fun t191 => ((kara_part.f k l1 (wrap64 (Int.tdiv (wrap64 ((ji3) + 1)) 2)) (ji3)).bind fun t194 => ((kara_Mul_1.f k t191 t194).bind fun t197 => ((kara_part.f k l0 0 (wrap64 (Int.tdiv (wrap64 ((ji3) + 1)) 2))).bind fun t200 => ((kara_part.f k l0 (wrap64 (Int.tdiv (wrap64 ((ji3) + 1)) 2)) (ji3)).bind fun t203 => ((nat_Add.f k t200 t203).bind fun t206 => ((kara_part.f k l1 0 (wrap64 (Int.tdiv (wrap64 ((ji3) + 1)) 2))).bind fun t209 => ((kara_part.f k l1 (wrap64 (Int.tdiv (wrap64 ((ji3) + 1)) 2)) (ji3)).bind fun t212 => ((nat_Add.f k t209 t212).bind fun t215 => ((kara_Mul_1.f k t206 t215).bind fun t218 => ((nat_Sub.f k t218 t188).bind fun bt221 => ((nat_Sub.f k bt221.1 t197).bind fun bt225 => (if 0 ≤ (wrap64 ((wrap64 (2 * (ji3))) + 2)) then (if (wrap64 ((wrap64 (2 * (ji3))) + 2) : Int).toNat ≤ 70368744177664 then ((kara_add.f k (List.replicate (wrap64 ((wrap64 (2 * (ji3))) + 2) : Int).toNat 0) t188 0).bind fun t232 => ((kara_add.f k t232 bt225.1 (wrap64 (Int.tdiv (wrap64 ((ji3) + 1)) 2))).bind fun t233 => ((kara_add.f k t233 t197 (wrap64 (2 * (wrap64 (Int.tdiv (wrap64 ((ji3) + 1)) 2))))).bind fun t234 => ((nat_Trim.f k t234).bind fun t235 => (some t235))))) else (none)) else (none)))))))))))))))) = some r := H
    have A8 := Aside0.mk A80
    clear A80
    replace H := Option.bind_eq_some_iff.mp H
    obtain ⟨t185, A90, H⟩ := H
    replace H : ((kara_Mul_1.f k t182 t185).bind fun t188 => ((kara_part.f k l0 (wrap64 (Int.tdiv (wrap64 ((ji3) + 1)) 2)) (ji3)).bind fun t191 => ((kara_part.f k l1 (wrap64 (Int.tdiv (wrap64 ((ji3) + 1)) 2)) (ji3)).bind fun t194 => ((kara_Mul_1.f k t191 t194).bind fun t197 => ((kara_part.f k l0 0 (wrap64 (Int.tdiv (wrap64 ((ji3) + 1)) 2))).bind fun t200 => ((kara_part.f k l0 (wrap64 (Int.tdiv (wrap64 ((ji3) + 1)) 2)) (ji3)).bind fun t203 => ((nat_Add.f k t200 t203).bind fun t206 => ((kara_part.f k l1 0 (wrap64 (Int.tdiv (wrap64 ((ji3) + 1)) 2))).bind fun t209 => ((kara_part.f k l1 (wrap64 (Int.tdiv (wrap64 ((ji3) + 1)) 2)) (ji3)).bind fun t212 => ((nat_Add.f k t209 t212).bind fun t215 => ((kara_Mul_1.f k t206 t215).bind fun t218 => ((nat_Sub.f k t218 t188).bind fun bt221 => ((nat_Sub.f k bt221.1 t197).bind fun bt225 => (if 0 ≤ (wrap64 ((wrap64 (2 * (ji3))) + 2)) then (if (wrap64 ((wrap64 (2 * (ji3))) + 2) : Int).toNat ≤ 70368744177664 then ((kara_add.f k (List.replicate (wrap64 ((wrap64 (2 * (ji3))) + 2) : Int).toNat 0) t188 0).bind fun t232 => ((kara_add.f k t232 bt225.1 (wrap64 (Int.tdiv (wrap64 ((ji3) + 1)) 2))).bind fun t233 => ((kara_add.f k t233 t197 (wrap64 (2 * (wrap64 (Int.tdiv (wrap64 ((ji3) + 1)) 2))))).bind fun t234 => ((nat_Trim.f k t234).bind fun t235 => (some t235))))) else (none)) else (none))))))))))))))) = some r := H
    have A9 := Aside0.mk A90
    clear A90
    replace H := Option.bind_eq_some_iff.mp H
    obtain ⟨t188, A100, H⟩ := H
    replace H : ((kara_part.f k l0 (wrap64 (Int.tdiv (wrap64 ((ji3) + 1)) 2)) (ji3)).bind fun t191 => ((kara_part.f k l1 (wrap64 (Int.tdiv (wrap64 ((ji3) + 1)) 2)) (ji3)).bind fun t194 => ((kara_Mul_1.f k t191 t194).bind fun t197 => ((kara_part.f k l0 0 (wrap64 (Int.tdiv (wrap64 ((ji3) + 1)) 2))).bind fun t200 => ((kara_part.f k l0 (wrap64 (Int.tdiv (wrap64 ((ji3) + 1)) 2)) (ji3)).bind fun t203 => ((nat_Add.f k t200 t203).bind fun t206 => ((kara_part.f k l1 0 (wrap64 (Int.tdiv (wrap64 ((ji3) + 1)) 2))).bind fun t209 => ((kara_part.f k l1 (wrap64 (Int.tdiv (wrap64 ((ji3) + 1)) 2)) (ji3)).bind fun t212 => ((nat_Add.f k t209 t212).bind fun t215 => ((kara_Mul_1.f k t206 t215).bind fun t218 => ((nat_Sub.f k t218 t188).bind fun bt221 => ((nat_Sub.f k bt221.1 t197).bind fun bt225 => (if 0 ≤ (wrap64 ((wrap64 (2 * (ji3))) + 2)) then (if (wrap64 ((wrap64 (2 * (ji3))) + 2) : Int).toNat ≤ 70368744177664 then ((kara_add.f k (List.replicate (wrap64 ((wrap64 (2 * (ji3))) + 2) : Int).toNat 0) t188 0).bind fun t232 => ((kara_add.f k t232 bt225.1 (wrap64 (Int.tdiv (wrap64 ((ji3) + 1)) 2))).bind fun t233 => ((kara_add.f k t233 t197 (wrap64 (2 * (wrap64 (Int.tdiv (wrap64 ((ji3) + 1)) 2))))).bind fun t234 => ((nat_Trim.f k t234).bind fun t235 => (some t235))))) else (none)) else (none)))))))))))))) = some r := H
    have A10 := Aside0.mk A100
    clear A100
    replace H := Option.bind_eq_some_iff.mp H
    obtain ⟨t191, A110, H⟩ := H
    replace H : ((kara_part.f k l1 (wrap64 (Int.tdiv (wrap64 ((ji3) + 1)) 2)) (ji3)).bind fun t194 => ((kara_Mul_1.f k t191 t194).bind fun t197 => ((kara_part.f k l0 0 (wrap64 (Int.tdiv (wrap64 ((ji3) + 1)) 2))).bind fun t200 => ((kara_part.f k l0 (wrap64 (Int.tdiv (wrap64 ((ji3) + 1)) 2)) (ji3)).bind fun t203 => ((nat_Add.f k t200 t203).bind fun t206 => ((kara_part.f k l1 0 (wrap64 (Int.tdiv (wrap64 ((ji3) + 1)) 2))).bind fun t209 => ((kara_part.f k l1 (wrap64 (Int.tdiv (wrap64 ((ji3) + 1)) 2)) (ji3)).bind fun t212 => ((nat_Add.f k t209 t212).bind fun t215 => ((kara_Mul_1.f k t206 t215).bind fun t218 => ((nat_Sub.f k t218 t188).bind fun bt221 => ((nat_Sub.f k bt221.1 t197).bind fun bt225 => (if 0 ≤ (wrap64 ((wrap64 (2 * (ji3))) + 2)) then (if (wrap64 ((wrap64 (2 * (ji3))) + 2) : Int).toNat ≤ 70368744177664 then ((kara_add.f k (List.replicate (wrap64 ((wrap64 (2 * (ji3))) + 2) : Int).toNat 0) t188 0).bind fun t232 => ((kara_add.f k t232 bt225.1 (wrap64 (Int.tdiv (wrap64 ((ji3) + 1)) 2))).bind fun t233 => ((kara_add.f k t233 t197 (wrap64 (2 * (wrap64 (Int.tdiv (wrap64 ((ji3) + 1)) 2))))).bind fun t234 => ((nat_Trim.f k t234).bind fun t235 => (some t235))))) else (none)) else (none))))))))))))) = some r := H
    have A11 := Aside0.mk A110
    clear A110
    replace H := Option.bind_eq_some_iff.mp H
    obtain ⟨t194, A120, H⟩ := H
    replace H : ((kara_Mul_1.f k t191 t194).bind fun t197 => ((kara_part.f k l0 0 (wrap64 (Int.tdiv (wrap64 ((ji3) + 1)) 2))).bind fun t200 => ((kara_part.f k l0 (wrap64 (Int.tdiv (wrap64 ((ji3) + 1)) 2)) (ji3)).bind fun t203 => ((nat_Add.f k t200 t203).bind fun t206 => ((kara_part.f k l1 0 (wrap64 (Int.tdiv (wrap64 ((ji3) + 1)) 2))).bind fun t209 => ((kara_part.f k l1 (wrap64 (Int.tdiv (wrap64 ((ji3) + 1)) 2)) (ji3)).bind fun t212 => ((nat_Add.f k t209 t212).bind fun t215 => ((kara_Mul_1.f k t206 t215).bind fun t218 => ((nat_Sub.f k t218 t188).bind fun bt221 => ((nat_Sub.f k bt221.1 t197).bind fun bt225 => (if 0 ≤ (wrap64 ((wrap64 (2 * (ji3))) + 2)) then (if (wrap64 ((wrap64 (2 * (ji3))) + 2) : Int).toNat ≤ 70368744177664 then ((kara_add.f k (List.replicate (wrap64 ((wrap64 (2 * (ji3))) + 2) : Int).toNat 0) t188 0).bind fun t232 => ((kara_add.f k t232 bt225.1 (wrap64 (Int.tdiv (wrap64 ((ji3) + 1)) 2))).bind fun t233 => ((kara_add.f k t233 t197 (wrap64 (2 * (wrap64 (Int.tdiv (wrap64 ((ji3) + 1)) 2))))).bind fun t234 => ((nat_Trim.f k t234).bind fun t235 => (some t235))))) else (none)) else (none)))))))))))) = some r := H
    have A12 := Aside0.mk A120
    clear A120
    replace H := Option.bind_eq_some_iff.mp H
    obtain ⟨t197, A130, H⟩ := H
    replace H : ((kara_part.f k l0 0 (wrap64 (Int.tdiv (wrap64 ((ji3) + 1)) 2))).bind fun t200 => ((kara_part.f k l0 (wrap64 (Int.tdiv (wrap64 ((ji3) + 1)) 2)) (ji3)).bind fun t203 => ((nat_Add.f k t200 t203).bind fun t206 => ((kara_part.f k l1 0 (wrap64 (Int.tdiv (wrap64 ((ji3) + 1)) 2))).bind fun t209 => ((kara_part.f k l1 (wrap64 (Int.tdiv (wrap64 ((ji3) + 1)) 2)) (ji3)).bind fun t212 => ((nat_Add.f k t209 t212).bind fun t215 => ((kara_Mul_1.f k t206 t215).bind fun t218 => ((nat_Sub.f k t218 t188).bind fun bt221 => ((nat_Sub.f k bt221.1 t197).bind fun bt225 => (if 0 ≤ (wrap64 ((wrap64 (2 * (ji3))) + 2)) then (if (wrap64 ((wrap64 (2 * (ji3))) + 2) : Int).toNat ≤ 70368744177664 then ((kara_add.f k (List.replicate (wrap64 ((wrap64 (2 * (ji3))) + 2) : Int).toNat 0) t188 0).bind fun t232 => ((kara_add.f k t232 bt225.1 (wrap64 (Int.tdiv (wrap64 ((ji3) + 1)) 2))).bind fun t233 => ((kara_add.f k t233 t197 (wrap64 (2 * (wrap64 (Int.tdiv (wrap64 ((ji3) + 1)) 2))))).bind fun t234 => ((nat_Trim.f k t234).bind fun t235 => (some t235))))) else (none)) else (none))))))))))) = some r := H
    have A13 := Aside0.mk A130
    clear A130
    replace H := Option.bind_eq_some_iff.mp H
    obtain ⟨t200, A140, H⟩ := H
    replace H : ((kara_part.f k l0 (wrap64 (Int.tdiv (wrap64 ((ji3) + 1)) 2)) (ji3)).bind fun t203 => ((nat_Add.f k t200 t203).bind fun t206 => ((kara_part.f k l1 0 (wrap64 (Int.tdiv (wrap64 ((ji3) + 1)) 2))).bind fun t209 => ((kara_part.f k l1 (wrap64 (Int.tdiv (wrap64 ((ji3) + 1)) 2)) (ji3)).bind fun t212 => ((nat_Add.f k t209 t212).bind fun t215 => ((kara_Mul_1.f k t206 t215).bind fun t218 => ((nat_Sub.f k t218 t188).bind fun bt221 => ((nat_Sub.f k bt221.1 t197).bind fun bt225 => (if 0 ≤ (wrap64 ((wrap64 (2 * (ji3))) + 2)) then (if (wrap64 ((wrap64 (2 * (ji3))) + 2) : Int).toNat ≤ 70368744177664 then ((kara_add.f k (List.replicate (wrap64 ((wrap64 (2 * (ji3))) + 2) : Int).toNat 0) t188 0).bind fun t232 => ((kara_add.f k t232 bt225.1 (wrap64 (Int.tdiv (wrap64 ((ji3) + 1)) 2))).bind fun t233 => ((kara_add.f k t233 t197 (wrap64 (2 * (wrap64 (Int.tdiv (wrap64 ((ji3) + 1)) 2))))).bind fun t234 => ((nat_Trim.f k t234).bind fun t235 => (some t235))))) else (none)) else (none)))))))))) = some r := H
    have A14 := Aside0.mk A140
    clear A140
    replace H := Option.bind_eq_some_iff.mp H
    obtain ⟨t203, A150, H⟩ := H
    replace H : ((nat_Add.f k t200 t203).bind fun t206 => ((kara_part.f k l1 0 (wrap64 (Int.tdiv (wrap64 ((ji3) + 1)) 2))).bind fun t209 => ((kara_part.f k l1 (wrap64 (Int.tdiv (wrap64 ((ji3) + 1)) 2)) (ji3)).bind fun t212 => ((nat_Add.f k t209 t212).bind fun t215 => ((kara_Mul_1.f k t206 t215).bind fun t218 => ((nat_Sub.f k t218 t188).bind fun bt221 => ((nat_Sub.f k bt221.1 t197).bind fun bt225 => (if 0 ≤ (wrap64 ((wrap64 (2 * (ji3))) + 2)) then (if (wrap64 ((wrap64 (2 * (ji3))) + 2) : Int).toNat ≤ 70368744177664 then ((kara_add.f k (List.replicate (wrap64 ((wrap64 (2 * (ji3))) + 2) : Int).toNat 0) t188 0).bind fun t232 => ((kara_add.f k t232 bt225.1 (wrap64 (Int.tdiv (wrap64 ((ji3) + 1)) 2))).bind fun t233 => ((kara_add.f k t233 t197 (wrap64 (2 * (wrap64 (Int.tdiv (wrap64 ((ji3) + 1)) 2))))).bind fun t234 => ((nat_Trim.f k t234).bind fun t235 => (some t235))))) else (none)) else (none))))))))) = some r := H
    have A15 := Aside0.mk A150
    clear A150
    replace H := Option.bind_eq_some_iff.mp H
    obtain ⟨t206, A160, H⟩ := H
    replace H : ((kara_part.f k l1 0 (wrap64 (Int.tdiv (wrap64 ((ji3) + 1)) 2))).bind fun t209 => ((kara_part.f k l1 (wrap64 (Int.tdiv (wrap64 ((ji3) + 1)) 2)) (ji3)).bind fun t212 => ((nat_Add.f k t209 t212).bind fun t215 => ((kara_Mul_1.f k t206 t215).bind fun t218 => ((nat_Sub.f k t218 t188).bind fun bt221 => ((nat_Sub.f k bt221.1 t197).bind fun bt225 => (if 0 ≤ (wrap64 ((wrap64 (2 * (ji3))) + 2)) then (if (wrap64 ((wrap64 (2 * (ji3))) + 2) : Int).toNat ≤ 70368744177664 then ((kara_add.f k (List.replicate (wrap64 ((wrap64 (2 * (ji3))) + 2) : Int).toNat 0) t188 0).bind fun t232 => ((kara_add.f k t232 bt225.1 (wrap64 (Int.tdiv (wrap64 ((ji3) + 1)) 2))).bind fun t233 => ((kara_add.f k t233 t197 (wrap64 (2 * (wrap64 (Int.tdiv (wrap64 ((ji3) + 1)) 2))))).bind fun t234 => ((nat_Trim.f k t234).bind fun t235 => (some t235))))) else (none)) else (none)))))))) = some r := H
    have A16 := Aside0.mk A160
    clear A160
    replace H := Option.bind_eq_some_iff.mp H
    obtain ⟨t209, A170, H⟩ := H
    replace H : ((kara_part.f k l1 (wrap64 (Int.tdiv (wrap64 ((ji3) + 1)) 2)) (ji3)).bind fun t212 => ((nat_Add.f k t209 t212).bind fun t215 => ((kara_Mul_1.f k t206 t215).bind fun t218 => ((nat_Sub.f k t218 t188).bind fun bt221 => ((nat_Sub.f k bt221.1 t197).bind fun bt225 => (if 0 ≤ (wrap64 ((wrap64 (2 * (ji3))) + 2)) then (if (wrap64 ((wrap64 (2 * (ji3))) + 2) : Int).toNat ≤ 70368744177664 then ((kara_add.f k (List.replicate (wrap64 ((wrap64 (2 * (ji3))) + 2) : Int).toNat 0) t188 0).bind fun t232 => ((kara_add.f k t232 bt225.1 (wrap64 (Int.tdiv (wrap64 ((ji3) + 1)) 2))).bind fun t233 => ((kara_add.f k t233 t197 (wrap64 (2 * (wrap64 (Int.tdiv (wrap64 ((ji3) + 1)) 2))))).bind fun t234 => ((nat_Trim.f k t234).bind fun t235 => (some t235))))) else (none)) else (none))))))) = some r := H
    have A17 := Aside0.mk A170
    clear A170
    replace H := Option.bind_eq_some_iff.mp H
    obtain ⟨t212, A180, H⟩ := H
    replace H : ((nat_Add.f k t209 t212).bind fun t215 => ((kara_Mul_1.f k t206 t215).bind fun t218 => ((nat_Sub.f k t218 t188).bind fun bt221 => ((nat_Sub.f k bt221.1 t197).bind fun bt225 => (if 0 ≤ (wrap64 ((wrap64 (2 * (ji3))) + 2)) then (if (wrap64 ((wrap64 (2 * (ji3))) + 2) : Int).toNat ≤ 70368744177664 then ((kara_add.f k (List.replicate (wrap64 ((wrap64 (2 * (ji3))) + 2) : Int).toNat 0) t188 0).bind fun t232 => ((kara_add.f k t232 bt225.1 (wrap64 (Int.tdiv (wrap64 ((ji3) + 1)) 2))).bind fun t233 => ((kara_add.f k t233 t197 (wrap64 (2 * (wrap64 (Int.tdiv (wrap64 ((ji3) + 1)) 2))))).bind fun t234 => ((nat_Trim.f k t234).bind fun t235 => (some t235))))) else (none)) else (none)))))) = some r := H
    have A18 := Aside0.mk A180
    clear A180
    replace H := Option.bind_eq_some_iff.mp H
    obtain ⟨t215, A190, H⟩ := H
    replace H : ((kara_Mul_1.f k t206 t215).bind fun t218 => ((nat_Sub.f k t218 t188).bind fun bt221 => ((nat_Sub.f k bt221.1 t197).bind fun bt225 => (if 0 ≤ (wrap64 ((wrap64 (2 * (ji3))) + 2)) then (if (wrap64 ((wrap64 (2 * (ji3))) + 2) : Int).toNat ≤ 70368744177664 then ((kara_add.f k (List.replicate (wrap64 ((wrap64 (2 * (ji3))) + 2) : Int).toNat 0) t188 0).bind fun t232 => ((kara_add.f k t232 bt225.1 (wrap64 (Int.tdiv (wrap64 ((ji3) + 1)) 2))).bind fun t233 => ((kara_add.f k t233 t197 (wrap64 (2 * (wrap64 (Int.tdiv (wrap64 ((ji3) + 1)) 2))))).bind fun t234 => ((nat_Trim.f k t234).bind fun t235 => (some t235))))) else (none)) else (none))))) = some r := H
    have A19 := Aside0.mk A190
    clear A190
    replace H := Option.bind_eq_some_iff.mp H
    obtain ⟨t218, A200, H⟩ := H
    replace H : ((nat_Sub.f k t218 t188).bind fun bt221 => ((nat_Sub.f k bt221.1 t197).bind fun bt225 => (if 0 ≤ (wrap64 ((wrap64 (2 * (ji3))) + 2)) then (if (wrap64 ((wrap64 (2 * (ji3))) + 2) : Int).toNat ≤ 70368744177664 then ((kara_add.f k (List.replicate (wrap64 ((wrap64 (2 * (ji3))) + 2) : Int).toNat 0) t188 0).bind fun t232 => ((kara_add.f k t232 bt225.1 (wrap64 (Int.tdiv (wrap64 ((ji3) + 1)) 2))).bind fun t233 => ((kara_add.f k t233 t197 (wrap64 (2 * (wrap64 (Int.tdiv (wrap64 ((ji3) + 1)) 2))))).bind fun t234 => ((nat_Trim.f k t234).bind fun t235 => (some t235))))) else (none)) else (none)))) = some r := H
    have A20 := Aside0.mk A200
    clear A200
    replace H := Option.bind_eq_some_iff.mp H
    obtain ⟨⟨t221, t224⟩, A210, H⟩ := H
    replace H : ((nat_Sub.f k t221 t197).bind fun bt225 => (if 0 ≤ (wrap64 ((wrap64 (2 * (ji3))) + 2)) then (if (wrap64 ((wrap64 (2 * (ji3))) + 2) : Int).toNat ≤ 70368744177664 then ((kara_add.f k (List.replicate (wrap64 ((wrap64 (2 * (ji3))) + 2) : Int).toNat 0) t188 0).bind fun t232 => ((kara_add.f k t232 bt225.1 (wrap64 (Int.tdiv (wrap64 ((ji3) + 1)) 2))).bind fun t233 => ((kara_add.f k t233 t197 (wrap64 (2 * (wrap64 (Int.tdiv (wrap64 ((ji3) + 1)) 2))))).bind fun t234 => ((nat_Trim.f k t234).bind fun t235 => (some t235))))) else (none)) else (none))) = some r := H
    have A21 := Aside0.mk A210
    clear A210
    replace H := Option.bind_eq_some_iff.mp H
    obtain ⟨⟨t225, t228⟩, A220, H⟩ := H
    replace H : (if 0 ≤ (wrap64 ((wrap64 (2 * (ji3))) + 2)) then (if (wrap64 ((wrap64 (2 * (ji3))) + 2) : Int).toNat ≤ 70368744177664 then ((kara_add.f k (List.replicate (wrap64 ((wrap64 (2 * (ji3))) + 2) : Int).toNat 0) t188 0).bind fun t232 => ((kara_add.f k t232 t225 (wrap64 (Int.tdiv (wrap64 ((ji3) + 1)) 2))).bind fun t233 => ((kara_add.f k t233 t197 (wrap64 (2 * (wrap64 (Int.tdiv (wrap64 ((ji3) + 1)) 2))))).bind fun t234 => ((nat_Trim.f k t234).bind fun t235 => (some t235))))) else (none)) else (none)) = some r := H
    have A22 := Aside0.mk A220
    clear A220
    obtain ⟨ji23, hji23⟩ : ∃ j_ : Int, (wrap64 ((wrap64 (2 * (ji3))) + 2)) = j_ := ⟨_, rfl⟩
    replace H : (if 0 ≤ (ji23) then (if (ji23 : Int).toNat ≤ 70368744177664 then ((kara_add.f k (List.replicate (ji23 : Int).toNat 0) t188 0).bind fun t232 => ((kara_add.f k t232 t225 (wrap64 (Int.tdiv (wrap64 ((ji3) + 1)) 2))).bind fun t233 => ((kara_add.f k t233 t197 (wrap64 (2 * (wrap64 (Int.tdiv (wrap64 ((ji3) + 1)) 2))))).bind fun t234 => ((nat_Trim.f k t234).bind fun t235 => (some t235))))) else (none)) else (none)) = some r := by first | (rw [hji23] at H; exact H) | (simp only [hji23] at H ⊢; exact H)
    (try rw [hji23] at A8)
    (try rw [hji23] at A9)
    (try rw [hji23] at A10)
    (try rw [hji23] at A11)
    (try rw [hji23] at A12)
    (try rw [hji23] at A13)
    (try rw [hji23] at A14)
    (try rw [hji23] at A15)
    (try rw [hji23] at A16)
    (try rw [hji23] at A17)
    (try rw [hji23] at A18)
    (try rw [hji23] at A19)
    (try rw [hji23] at A20)
    (try rw [hji23] at A21)
    (try rw [hji23] at A22)
    have hji23w : (IntKind.i64.wrap ((wrap64 (2 * (ji3))) + 2)) = ji23 := (i64_w _).trans hji23
    by_cases c24 : 0 ≤ (ji23)
    · rw [if_pos c24] at H
      have c24b0 := eq_true c24
      have c24b1 : decide (0 ≤ (ji23)) = true := decide_eq_true c24
      clear c24
      by_cases c25 : (ji23 : Int).toNat ≤ 70368744177664
      · rw [if_pos c25] at H
        have c25b0 := eq_true c25
        have c25b1 : decide ((ji23 : Int).toNat ≤ 70368744177664) = true := decide_eq_true c25
        clear c25
        obtain ⟨y229, hy229⟩ : ∃ y_ : List Int, y_ = (List.replicate (ji23 : Int).toNat 0) := ⟨_, rfl⟩
        replace H : ((kara_add.f k y229 t188 0).bind fun t232 => ((kara_add.f k t232 t225 (wrap64 (Int.tdiv (wrap64 ((ji3) + 1)) 2))).bind fun t233 => ((kara_add.f k t233 t197 (wrap64 (2 * (wrap64 (Int.tdiv (wrap64 ((ji3) + 1)) 2))))).bind fun t234 => ((nat_Trim.f k t234).bind fun t235 => (some t235))))) = some r := by first | (rw [hy229]; with_reducible exact H) | (have H2_ := (Option.bind_some _ _).symm.trans H; rw [hy229]; with_reducible exact H2_) | (have H2_ := (Option.bind_some _ _).symm.trans H; with_reducible exact H2_) | with_reducible exact H | (rw [hy229]; exact H) | exact H
        have Ny229 := Aside0.mk hy229
        clear hy229
        replace H := Option.bind_eq_some_iff.mp H
        obtain ⟨t232, A260, H⟩ := H
        replace H : ((kara_add.f k t232 t225 (wrap64 (Int.tdiv (wrap64 ((ji3) + 1)) 2))).bind fun t233 => ((kara_add.f k t233 t197 (wrap64 (2 * (wrap64 (Int.tdiv (wrap64 ((ji3) + 1)) 2))))).bind fun t234 => ((nat_Trim.f k t234).bind fun t235 => (some t235)))) = some r := H
        have A26 := Aside0.mk A260
        clear A260
        replace H := Option.bind_eq_some_iff.mp H
        obtain ⟨t233, A270, H⟩ := H
        replace H : ((kara_add.f k t233 t197 (wrap64 (2 * (wrap64 (Int.tdiv (wrap64 ((ji3) + 1)) 2))))).bind fun t234 => ((nat_Trim.f k t234).bind fun t235 => (some t235))) = some r := H
        have A27 := Aside0.mk A270
        clear A270
        replace H := Option.bind_eq_some_iff.mp H
        obtain ⟨t234, A280, H⟩ := H
        replace H : ((nat_Trim.f k t234).bind fun t235 => (some t235)) = some r := H
        have A28 := Aside0.mk A280
        clear A280
        replace H := Option.bind_eq_some_iff.mp H
        obtain ⟨t235, A290, H⟩ := H
        replace H : (some t235) = some r := H
        have A29 := Aside0.mk A290
        clear A290
        obtain rfl := Option.some.inj H
        go_enter Try.func19, Try.ntmps19
        try go_wp2
        have n0_ := Aside0.mk (Kd.V_drew HO0.out)
        have n1_ := Aside0.mk (Kd.V_drew HO1.out)
        have n2_ := Aside0.mk (below_drew1 HB.out)
        clear HO0
        clear HO1
        clear HB
        have HO0 := n0_
        have HO1 := n1_
        have HB := n2_
        clear n0_ n1_ n2_
        refine start_ (n := 9) (S := fun w' => w'.cell? ⟨B_, 0, none⟩ = some (.func (.func 19) #[] #[.pointer (some ⟨B_, 0, none⟩)] : Value)) (ds := []) #[false, false, false, false, false, false, false, false, false] (by kernel_rfl) rfl rfl (((HB.out).cell HBl_.out).trans HBc_.out) (fun hHeld => ?_); refine with_tabW kara_Mul_1.tab5 kara_Mul_1.bits5 (fun HT_ HW_ => ?_)
        generalize w.drew = w30 at HO0 HO1 HB hHeld ⊢
        refine pure_ (i := 1) (N := some 30) (v := ?_) (a' := ?_) #[false, true, false, false, false, false, false, false, false] rfl rfl (any_of HT_.out (by kernel_rfl)) (fun _ _ _ h => h) (Or.inl ⟨by rfl, ?_⟩) ?_ ?_
        rotate_left
        · intro w'
          go_simp
          with_reducible rfl
        rotate_left
        · simp only [Act.put, List.setIfInBounds_toArray, List.set_cons_zero, List.set_cons_succ, i64_w, i32_w]
          rfl
        refine pure_ (i := 2) (N := some 31) (v := ?_) (a' := ?_) #[false, true, true, false, false, false, false, false, false] rfl rfl (any_of HT_.out (by kernel_rfl)) (fun _ _ _ h => h) (Or.inl ⟨by rfl, ?_⟩) ?_ ?_
        rotate_left
        · intro w'
          go_simp
          with_reducible rfl
        rotate_left
        · simp only [Act.put, List.setIfInBounds_toArray, List.set_cons_zero, List.set_cons_succ, i64_w, i32_w]
          rfl
        refine pure_ (i := 4) (N := some 33) (v := ?_) (a' := ?_) #[false, true, true, false, true, false, false, false, false] rfl rfl (any_of HT_.out (by kernel_rfl)) (fun _ _ _ h => h) (Or.inl ⟨by rfl, ?_⟩) ?_ ?_
        rotate_left
        · intro w'
          go_simp
          with_reducible rfl
        rotate_left
        · simp only [Act.put, List.setIfInBounds_toArray, List.set_cons_zero, List.set_cons_succ, i64_w, i32_w]
          rfl
        refine pure_ (i := 5) (N := some 34) (v := ?_) (a' := ?_) #[false, true, true, false, true, true, false, false, false] rfl rfl (any_of HT_.out (by kernel_rfl)) (fun _ _ _ h => h) (Or.inl ⟨by rfl, ?_⟩) ?_ ?_
        rotate_left
        · intro w'
          go_simp
          with_reducible rfl
        rotate_left
        · simp only [Act.put, List.setIfInBounds_toArray, List.set_cons_zero, List.set_cons_succ, i64_w, i32_w]
          rfl
        refine take_ (i := 0) (N := some 29) (v := ?_) (a' := ?_) #[true, true, true, false, true, true, false, false, false] rfl rfl (take_ofW HT_.out HW_.out (by kernel_rfl)) (fun _ _ _ h => h) (Or.inl ⟨by rfl, ?_⟩) hHeld ?_ ?_
        rotate_left
        · intro w' s0
          go_simp
          with_reducible rfl
        rotate_left
        · simp only [Act.put, List.setIfInBounds_toArray, List.set_cons_zero, List.set_cons_succ, i64_w, i32_w]
          rfl
        refine one_ (i := 3) (N := some 32) #[true, true, true, true, true, true, false, false, false] rfl rfl (one_of HT_.out (by kernel_rfl)) (by decide) (fun K hK => ?_)
        refine goes_ Try.func21 (by kernel_rfl) rfl #[.slice A0 l0.length c0, .int .i64 0, .int .i64 (wrap64 (Int.tdiv (wrap64 ((ji3) + 1)) 2))] (by rfl) rfl rfl (by (try simp only [List.map_toArray, List.map_cons, List.map_nil]); first | done | (simp only [hji3]; rfl) | rfl | (simp only [List.length_drop, List.length_take]; rfl)) ?_
        with_reducible refine (kara_part.calls k _ _ l0 0 (wrap64 (Int.tdiv (wrap64 ((ji3) + 1)) 2)) t182 _ ?side1 ?side2 A8.out).mono ?_
        (case side1 => repeat (first | exact (Kd.V_reads' HO0.out).2.2 | (with_reducible refine Kd.C_alloc ?_ _) | (with_reducible refine Kd.C_drewN ?_ _) | (with_reducible refine Kd.C_drew ?_)))
        (case side2 => exact (Kd.V_reads' HO0.out).2.1)
        rintro e w31 ⟨v183, rfl, ho0, hb⟩
        refine ⟨_, rfl, ?_⟩
        have n0_ := Aside0.mk (Kd.V_elder' (by (with_reducible repeat (first | apply Kd.V_alloc | apply Kd.V_drewN | apply Kd.V_drew)); exact HO0.out) (Kd.R_base ho0) hb)
        have n1_ := Aside0.mk (Kd.V_elder' (by (with_reducible repeat (first | apply Kd.V_alloc | apply Kd.V_drewN | apply Kd.V_drew)); exact HO1.out) (Kd.R_base ho0) hb)
        have n2_ := Aside0.mk (Kd.R_lower (Kd.R_newM (M := fun k_ => (w.heap.size ≤ k_)) ho0 (below_size (by repeat (first | (with_reducible first | exact HB.out | apply below_alloc | apply pw_below_drewN | apply below_drew1) | exact HB.out))) (fun k_ h_ => h_)) (below_size (by repeat (first | (with_reducible first | exact HB.out | apply below_alloc | apply pw_below_drewN | apply below_drew1) | exact HB.out))))
        have n3_ := Aside0.mk (below_step (by repeat (first | (with_reducible first | exact HB.out | apply below_alloc | apply pw_below_drewN | apply below_drew1) | exact HB.out)) hb)
        clear HO0
        clear HO1
        clear HB
        have HO0 := n0_
        have HO1 := n1_
        have HO184 := n2_
        have HB := n3_
        clear n0_ n1_ n2_ n3_
        (try clear hb)
        (try clear hb2)
        (try clear hk)
        (try clear hi)
        (try clear ho0)
        refine hK.out _ _ (((HB.out).cell HBl_.out).trans HBc_.out) (fun hHeld => ?_)
        clear hK K
        refine norm_ (a' := ?_) ?_ ?_
        rotate_left
        · show Act.put _ (some 32) _ = _
          simp only [Act.put, List.setIfInBounds_toArray, List.set_cons_zero, List.set_cons_succ, i64_w, i32_w]
          rfl
        refine one_ (i := 6) (N := some 35) #[true, true, true, true, true, true, true, false, false] rfl rfl (one_of HT_.out (by kernel_rfl)) (by decide) (fun K hK => ?_)
        refine goes_ Try.func21 (by kernel_rfl) rfl #[.slice A1 l1.length c1, .int .i64 0, .int .i64 (wrap64 (Int.tdiv (wrap64 ((ji3) + 1)) 2))] (by rfl) rfl rfl (by (try simp only [List.map_toArray, List.map_cons, List.map_nil]); first | done | (simp only [hji3]; rfl) | rfl | (simp only [List.length_drop, List.length_take]; rfl)) ?_
        with_reducible refine (kara_part.calls k _ _ l1 0 (wrap64 (Int.tdiv (wrap64 ((ji3) + 1)) 2)) t185 _ ?side1 ?side2 A9.out).mono ?_
        (case side1 => repeat (first | exact (Kd.V_reads' HO1.out).2.2 | (with_reducible refine Kd.C_alloc ?_ _) | (with_reducible refine Kd.C_drewN ?_ _) | (with_reducible refine Kd.C_drew ?_)))
        (case side2 => exact (Kd.V_reads' HO1.out).2.1)
        rintro e w32 ⟨v186, rfl, ho0, hb⟩
        refine ⟨_, rfl, ?_⟩
        have n0_ := Aside0.mk (Kd.V_elder' (by (with_reducible repeat (first | apply Kd.V_alloc | apply Kd.V_drewN | apply Kd.V_drew)); exact HO0.out) (Kd.R_base ho0) hb)
        have n1_ := Aside0.mk (Kd.V_elder' (by (with_reducible repeat (first | apply Kd.V_alloc | apply Kd.V_drewN | apply Kd.V_drew)); exact HO1.out) (Kd.R_base ho0) hb)
        have n2_ := Aside0.mk (Kd.R_elder' (by (with_reducible repeat (first | apply Kd.R_alloc | apply Kd.R_drewN | apply Kd.R_drew)); exact HO184.out) (Kd.R_base ho0) hb)
        have n3_ := Aside0.mk (Kd.R_lower (Kd.R_new' (Kd.R_newM (M := fun k_ => (w.heap.size ≤ k_)) ho0 (below_size (by repeat (first | (with_reducible first | exact HB.out | apply below_alloc | apply pw_below_drewN | apply below_drew1) | exact HB.out))) (fun k_ h_ => h_)) (Kd.R_lt (by (with_reducible repeat (first | apply Kd.R_alloc | apply Kd.R_drewN | apply Kd.R_drew)); exact HO184.out))) (below_size (by repeat (first | (with_reducible first | exact HB.out | apply below_alloc | apply pw_below_drewN | apply below_drew1) | exact HB.out))))
        have n4_ := Aside0.mk (below_step (by repeat (first | (with_reducible first | exact HB.out | apply below_alloc | apply pw_below_drewN | apply below_drew1) | exact HB.out)) hb)
        clear HO0
        clear HO1
        clear HO184
        clear HB
        have HO0 := n0_
        have HO1 := n1_
        have HO184 := n2_
        have HO187 := n3_
        have HB := n4_
        clear n0_ n1_ n2_ n3_ n4_
        (try clear hb)
        (try clear hb2)
        (try clear hk)
        (try clear hi)
        (try clear ho0)
        obtain ⟨Ao33, co33, eo33⟩ := Kd.R_slice HO184.out
        (first | subst eo33 | (injection eo33 with f1_ f2_ f3_; have f4_ := f1_.symm; have f5_ := f3_.symm; clear f1_ f2_ f3_; subst f4_; subst f5_))
        obtain ⟨Ao34, co34, eo34⟩ := Kd.R_slice HO187.out
        (first | subst eo34 | (injection eo34 with f1_ f2_ f3_; have f4_ := f1_.symm; have f5_ := f3_.symm; clear f1_ f2_ f3_; subst f4_; subst f5_))
        refine hK.out _ _ (((HB.out).cell HBl_.out).trans HBc_.out) (fun hHeld => ?_)
        clear hK K
        refine norm_ (a' := ?_) ?_ ?_
        rotate_left
        · show Act.put _ (some 35) _ = _
          simp only [Act.put, List.setIfInBounds_toArray, List.set_cons_zero, List.set_cons_succ, i64_w, i32_w]
          rfl
        refine one_ (i := 7) (N := some 36) #[true, true, true, true, true, true, true, true, false] rfl rfl (one_of HT_.out (by kernel_rfl)) (by decide) (fun K hK => ?_)
        refine goesV_ Try.func19 (by kernel_rfl) rfl #[.slice Ao33 t182.length co33, .slice Ao34 t185.length co34] #[.pointer (some ⟨B_, 0, none⟩)] #[.slice Ao33 t182.length co33, .slice Ao34 t185.length co34, .pointer (some ⟨B_, 0, none⟩)] rfl (by rfl) rfl rfl (by rfl) (by (try simp only [List.map_toArray, List.map_cons, List.map_nil]); first | done | rfl | (simp only [List.length_drop, List.length_take]; rfl)) ?_
        with_reducible refine (ih k (by omega) (fun k_ => some k_ = (.slice Ao33 t182.length co33 : Value).ownBlock) _ _ t182 (fun k_ => some k_ = (.slice Ao34 t185.length co34 : Value).ownBlock) _ _ t185 t188 _ ?sideB ?side1 ?side2 A10.out).mono ?_
        (case sideB => exact hHeld)
        (case side1 => exact Kd.R_V (Kd.R_tight rfl (HO184.out)))
        (case side2 => exact Kd.R_V (Kd.R_tight rfl (HO187.out)))
        rintro e w35 ⟨v189, rfl, ho0, hb⟩
        refine ⟨_, rfl, ?_⟩
        have n0_ := Aside0.mk (Kd.V_below (by (with_reducible repeat (first | apply Kd.V_alloc | apply Kd.V_drewN | apply Kd.V_drew)); exact HO0.out) hb)
        have n1_ := Aside0.mk (Kd.V_below (by (with_reducible repeat (first | apply Kd.V_alloc | apply Kd.V_drewN | apply Kd.V_drew)); exact HO1.out) hb)
        have n2_ := Aside0.mk (Kd.R_below (by (with_reducible repeat (first | apply Kd.R_alloc | apply Kd.R_drewN | apply Kd.R_drew)); exact HO184.out) hb)
        have n3_ := Aside0.mk (Kd.R_below (by (with_reducible repeat (first | apply Kd.R_alloc | apply Kd.R_drewN | apply Kd.R_drew)); exact HO187.out) hb)
        have n4_ := Aside0.mk (Kd.V_lower (Kd.V_mono (ok' := fun k_ => ((P0_ k_ ∨ P1_ k_) ∨ w.heap.size ≤ k_)) ho0 (fun k_ hk_ => Or.elim hk_ (fun hs_ => Or.elim hs_ (fun hs_ => (.inr (((HO184.out).1 k_ hs_.symm).1.1))) (fun hs_ => (.inr (((HO187.out).1 k_ hs_.symm).1.1)))) (fun hn_ => (.inr (Nat.le_trans (below_size (by repeat (first | (with_reducible first | exact HB.out | apply below_alloc | apply pw_below_drewN | apply below_drew1) | exact HB.out))) hn_))))) (below_size (by repeat (first | (with_reducible first | exact HB.out | apply below_alloc | apply pw_below_drewN | apply below_drew1) | exact HB.out))))
        have n5_ := Aside0.mk (below_step (by repeat (first | (with_reducible first | exact HB.out | apply below_alloc | apply pw_below_drewN | apply below_drew1) | exact HB.out)) hb)
        clear HO0
        clear HO1
        clear HO184
        clear HO187
        clear HB
        have HO0 := n0_
        have HO1 := n1_
        have HO184 := n2_
        have HO187 := n3_
        have HO190 := n4_
        have HB := n5_
        clear n0_ n1_ n2_ n3_ n4_ n5_
        (try clear hb)
        (try clear hb2)
        (try clear hk)
        (try clear hi)
        (try clear ho0)
        refine hK.out _ _ (((HB.out).cell HBl_.out).trans HBc_.out) (fun hHeld => ?_)
        clear hK K
        refine norm_ (a' := ?_) ?_ ?_
        rotate_left
        · show Act.put _ (some 36) _ = _
          simp only [Act.put, List.setIfInBounds_toArray, List.set_cons_zero, List.set_cons_succ, i64_w, i32_w]
          rfl
        refine pure_ (i := 8) (N := some 8) (v := ?_) (a' := ?_) #[true, true, true, true, true, true, true, true, true] rfl rfl (any_of HT_.out (by kernel_rfl)) (fun _ _ _ h => h) (Or.inl ⟨by rfl, ?_⟩) ?_ ?_
        rotate_left
        · intro w'
          go_simp
          with_reducible rfl
        rotate_left
        · simp only [Act.put, List.setIfInBounds_toArray, List.set_cons_zero, List.set_cons_succ, i64_w, i32_w]
          rfl
        refine done_ (done_of HT_.out (by kernel_rfl)) ?_
        try go_wp2
        have n0_ := Aside0.mk (Kd.V_drew HO0.out)
        have n1_ := Aside0.mk (Kd.V_drew HO1.out)
        have n2_ := Aside0.mk (Kd.R_drew HO184.out)
        have n3_ := Aside0.mk (Kd.R_drew HO187.out)
        have n4_ := Aside0.mk (Kd.V_drew HO190.out)
        have n5_ := Aside0.mk (below_drew1 HB.out)
        clear HO0
        clear HO1
        clear HO184
        clear HO187
        clear HO190
        clear HB
        have HO0 := n0_
        have HO1 := n1_
        have HO184 := n2_
        have HO187 := n3_
        have HO190 := n4_
        have HB := n5_
        clear n0_ n1_ n2_ n3_ n4_ n5_
        refine start_ (n := 11) (S := fun w' => w'.cell? ⟨B_, 0, none⟩ = some (.func (.func 19) #[] #[.pointer (some ⟨B_, 0, none⟩)] : Value)) (ds := []) #[false, false, false, false, false, false, false, false, false, false, false] (by kernel_rfl) rfl rfl (((HB.out).cell HBl_.out).trans HBc_.out) (fun hHeld => ?_); refine with_tabW kara_Mul_1.tab6 kara_Mul_1.bits6 (fun HT_ HW_ => ?_)
        generalize w35.drew = w36 at HO0 HO1 HO184 HO187 HO190 HB hHeld ⊢
        refine pure_ (i := 1) (N := some 38) (v := ?_) (a' := ?_) #[false, true, false, false, false, false, false, false, false, false, false] rfl rfl (any_of HT_.out (by kernel_rfl)) (fun _ _ _ h => h) (Or.inl ⟨by rfl, ?_⟩) ?_ ?_
        rotate_left
        · intro w'
          go_simp
          with_reducible rfl
        rotate_left
        · simp only [Act.put, List.setIfInBounds_toArray, List.set_cons_zero, List.set_cons_succ, i64_w, i32_w]
          rfl
        refine pure_ (i := 2) (N := some 39) (v := ?_) (a' := ?_) #[false, true, true, false, false, false, false, false, false, false, false] rfl rfl (any_of HT_.out (by kernel_rfl)) (fun _ _ _ h => h) (Or.inl ⟨by rfl, ?_⟩) ?_ ?_
        rotate_left
        · intro w'
          go_simp
          with_reducible rfl
        rotate_left
        · simp only [Act.put, List.setIfInBounds_toArray, List.set_cons_zero, List.set_cons_succ, i64_w, i32_w]
          rfl
        refine pure_ (i := 3) (N := some 40) (v := ?_) (a' := ?_) #[false, true, true, true, false, false, false, false, false, false, false] rfl rfl (any_of HT_.out (by kernel_rfl)) (fun _ _ _ h => h) (Or.inl ⟨by rfl, ?_⟩) ?_ ?_
        rotate_left
        · intro w'
          go_simp
          with_reducible rfl
        rotate_left
        · simp only [Act.put, List.setIfInBounds_toArray, List.set_cons_zero, List.set_cons_succ, i64_w, i32_w]
          rfl
        refine pure_ (i := 5) (N := some 42) (v := ?_) (a' := ?_) #[false, true, true, true, false, true, false, false, false, false, false] rfl rfl (any_of HT_.out (by kernel_rfl)) (fun _ _ _ h => h) (Or.inl ⟨by rfl, ?_⟩) ?_ ?_
        rotate_left
        · intro w'
          go_simp
          with_reducible rfl
        rotate_left
        · simp only [Act.put, List.setIfInBounds_toArray, List.set_cons_zero, List.set_cons_succ, i64_w, i32_w]
          rfl
        refine pure_ (i := 6) (N := some 43) (v := ?_) (a' := ?_) #[false, true, true, true, false, true, true, false, false, false, false] rfl rfl (any_of HT_.out (by kernel_rfl)) (fun _ _ _ h => h) (Or.inl ⟨by rfl, ?_⟩) ?_ ?_
        rotate_left
        · intro w'
          go_simp
          with_reducible rfl
        rotate_left
        · simp only [Act.put, List.setIfInBounds_toArray, List.set_cons_zero, List.set_cons_succ, i64_w, i32_w]
          rfl
        refine pure_ (i := 7) (N := some 44) (v := ?_) (a' := ?_) #[false, true, true, true, false, true, true, true, false, false, false] rfl rfl (any_of HT_.out (by kernel_rfl)) (fun _ _ _ h => h) (Or.inl ⟨by rfl, ?_⟩) ?_ ?_
        rotate_left
        · intro w'
          go_simp
          with_reducible rfl
        rotate_left
        · simp only [Act.put, List.setIfInBounds_toArray, List.set_cons_zero, List.set_cons_succ, i64_w, i32_w]
          rfl
        refine take_ (i := 0) (N := some 37) (v := ?_) (a' := ?_) #[true, true, true, true, false, true, true, true, false, false, false] rfl rfl (take_ofW HT_.out HW_.out (by kernel_rfl)) (fun _ _ _ h => h) (Or.inl ⟨by rfl, ?_⟩) hHeld ?_ ?_
        rotate_left
        · intro w' s0
          go_simp
          with_reducible rfl
        rotate_left
        · simp only [Act.put, List.setIfInBounds_toArray, List.set_cons_zero, List.set_cons_succ, i64_w, i32_w]
          rfl
        refine one_ (i := 4) (N := some 41) #[true, true, true, true, true, true, true, true, false, false, false] rfl rfl (one_of HT_.out (by kernel_rfl)) (by decide) (fun K hK => ?_)
        refine goes_ Try.func21 (by kernel_rfl) rfl #[.slice A0 l0.length c0, .int .i64 (wrap64 (Int.tdiv (wrap64 ((ji3) + 1)) 2)), .int .i64 ji3] (by rfl) rfl rfl (by (try simp only [List.map_toArray, List.map_cons, List.map_nil]); first | done | (simp only [hji3]; rfl) | rfl | (simp only [List.length_drop, List.length_take]; rfl)) ?_
        with_reducible refine (kara_part.calls k _ _ l0 (wrap64 (Int.tdiv (wrap64 ((ji3) + 1)) 2)) ji3 t191 _ ?side1 ?side2 A11.out).mono ?_
        (case side1 => repeat (first | exact (Kd.V_reads' HO0.out).2.2 | (with_reducible refine Kd.C_alloc ?_ _) | (with_reducible refine Kd.C_drewN ?_ _) | (with_reducible refine Kd.C_drew ?_)))
        (case side2 => exact (Kd.V_reads' HO0.out).2.1)
        rintro e w37 ⟨v192, rfl, ho0, hb⟩
        refine ⟨_, rfl, ?_⟩
        have n0_ := Aside0.mk (Kd.V_elder' (by (with_reducible repeat (first | apply Kd.V_alloc | apply Kd.V_drewN | apply Kd.V_drew)); exact HO0.out) (Kd.R_base ho0) hb)
        have n1_ := Aside0.mk (Kd.V_elder' (by (with_reducible repeat (first | apply Kd.V_alloc | apply Kd.V_drewN | apply Kd.V_drew)); exact HO1.out) (Kd.R_base ho0) hb)
        have n2_ := Aside0.mk (Kd.R_elder' (by (with_reducible repeat (first | apply Kd.R_alloc | apply Kd.R_drewN | apply Kd.R_drew)); exact HO184.out) (Kd.R_base ho0) hb)
        have n3_ := Aside0.mk (Kd.R_elder' (by (with_reducible repeat (first | apply Kd.R_alloc | apply Kd.R_drewN | apply Kd.R_drew)); exact HO187.out) (Kd.R_base ho0) hb)
        have n4_ := Aside0.mk (Kd.V_elder' (by (with_reducible repeat (first | apply Kd.V_alloc | apply Kd.V_drewN | apply Kd.V_drew)); exact HO190.out) (Kd.R_base ho0) hb)
        have n5_ := Aside0.mk (Kd.R_lower (Kd.R_new' (Kd.R_new' (Kd.R_newM (M := fun k_ => (w.heap.size ≤ k_)) ho0 (below_size (by repeat (first | (with_reducible first | exact HB.out | apply below_alloc | apply pw_below_drewN | apply below_drew1) | exact HB.out))) (fun k_ h_ => h_)) (Kd.R_lt (by (with_reducible repeat (first | apply Kd.R_alloc | apply Kd.R_drewN | apply Kd.R_drew)); exact HO184.out))) (Kd.R_lt (by (with_reducible repeat (first | apply Kd.R_alloc | apply Kd.R_drewN | apply Kd.R_drew)); exact HO187.out))) (below_size (by repeat (first | (with_reducible first | exact HB.out | apply below_alloc | apply pw_below_drewN | apply below_drew1) | exact HB.out))))
        have n6_ := Aside0.mk (below_step (by repeat (first | (with_reducible first | exact HB.out | apply below_alloc | apply pw_below_drewN | apply below_drew1) | exact HB.out)) hb)
        clear HO0
        clear HO1
        clear HO184
        clear HO187
        clear HO190
        clear HB
        have HO0 := n0_
        have HO1 := n1_
        have HO184 := n2_
        have HO187 := n3_
        have HO190 := n4_
        have HO193 := n5_
        have HB := n6_
        clear n0_ n1_ n2_ n3_ n4_ n5_ n6_
        (try clear hb)
        (try clear hb2)
        (try clear hk)
        (try clear hi)
        (try clear ho0)
        refine hK.out _ _ (((HB.out).cell HBl_.out).trans HBc_.out) (fun hHeld => ?_)
        clear hK K
        refine norm_ (a' := ?_) ?_ ?_
        rotate_left
        · show Act.put _ (some 41) _ = _
          simp only [Act.put, List.setIfInBounds_toArray, List.set_cons_zero, List.set_cons_succ, i64_w, i32_w]
          rfl
        refine one_ (i := 8) (N := some 45) #[true, true, true, true, true, true, true, true, true, false, false] rfl rfl (one_of HT_.out (by kernel_rfl)) (by decide) (fun K hK => ?_)
        refine goes_ Try.func21 (by kernel_rfl) rfl #[.slice A1 l1.length c1, .int .i64 (wrap64 (Int.tdiv (wrap64 ((ji3) + 1)) 2)), .int .i64 ji3] (by rfl) rfl rfl (by (try simp only [List.map_toArray, List.map_cons, List.map_nil]); first | done | (simp only [hji3]; rfl) | rfl | (simp only [List.length_drop, List.length_take]; rfl)) ?_
        with_reducible refine (kara_part.calls k _ _ l1 (wrap64 (Int.tdiv (wrap64 ((ji3) + 1)) 2)) ji3 t194 _ ?side1 ?side2 A12.out).mono ?_
        (case side1 => repeat (first | exact (Kd.V_reads' HO1.out).2.2 | (with_reducible refine Kd.C_alloc ?_ _) | (with_reducible refine Kd.C_drewN ?_ _) | (with_reducible refine Kd.C_drew ?_)))
        (case side2 => exact (Kd.V_reads' HO1.out).2.1)
        rintro e w38 ⟨v195, rfl, ho0, hb⟩
        refine ⟨_, rfl, ?_⟩
        have n0_ := Aside0.mk (Kd.V_elder' (by (with_reducible repeat (first | apply Kd.V_alloc | apply Kd.V_drewN | apply Kd.V_drew)); exact HO0.out) (Kd.R_base ho0) hb)
        have n1_ := Aside0.mk (Kd.V_elder' (by (with_reducible repeat (first | apply Kd.V_alloc | apply Kd.V_drewN | apply Kd.V_drew)); exact HO1.out) (Kd.R_base ho0) hb)
        have n2_ := Aside0.mk (Kd.R_elder' (by (with_reducible repeat (first | apply Kd.R_alloc | apply Kd.R_drewN | apply Kd.R_drew)); exact HO184.out) (Kd.R_base ho0) hb)
        have n3_ := Aside0.mk (Kd.R_elder' (by (with_reducible repeat (first | apply Kd.R_alloc | apply Kd.R_drewN | apply Kd.R_drew)); exact HO187.out) (Kd.R_base ho0) hb)
        have n4_ := Aside0.mk (Kd.V_elder' (by (with_reducible repeat (first | apply Kd.V_alloc | apply Kd.V_drewN | apply Kd.V_drew)); exact HO190.out) (Kd.R_base ho0) hb)
        have n5_ := Aside0.mk (Kd.R_elder' (by (with_reducible repeat (first | apply Kd.R_alloc | apply Kd.R_drewN | apply Kd.R_drew)); exact HO193.out) (Kd.R_base ho0) hb)
        have n6_ := Aside0.mk (Kd.R_lower (Kd.R_new' (Kd.R_new' (Kd.R_new' (Kd.R_newM (M := fun k_ => (w.heap.size ≤ k_)) ho0 (below_size (by repeat (first | (with_reducible first | exact HB.out | apply below_alloc | apply pw_below_drewN | apply below_drew1) | exact HB.out))) (fun k_ h_ => h_)) (Kd.R_lt (by (with_reducible repeat (first | apply Kd.R_alloc | apply Kd.R_drewN | apply Kd.R_drew)); exact HO184.out))) (Kd.R_lt (by (with_reducible repeat (first | apply Kd.R_alloc | apply Kd.R_drewN | apply Kd.R_drew)); exact HO187.out))) (Kd.R_lt (by (with_reducible repeat (first | apply Kd.R_alloc | apply Kd.R_drewN | apply Kd.R_drew)); exact HO193.out))) (below_size (by repeat (first | (with_reducible first | exact HB.out | apply below_alloc | apply pw_below_drewN | apply below_drew1) | exact HB.out))))
        have n7_ := Aside0.mk (below_step (by repeat (first | (with_reducible first | exact HB.out | apply below_alloc | apply pw_below_drewN | apply below_drew1) | exact HB.out)) hb)
        clear HO0
        clear HO1
        clear HO184
        clear HO187
        clear HO190
        clear HO193
        clear HB
        have HO0 := n0_
        have HO1 := n1_
        have HO184 := n2_
        have HO187 := n3_
        have HO190 := n4_
        have HO193 := n5_
        have HO196 := n6_
        have HB := n7_
        clear n0_ n1_ n2_ n3_ n4_ n5_ n6_ n7_
        (try clear hb)
        (try clear hb2)
        (try clear hk)
        (try clear hi)
        (try clear ho0)
        obtain ⟨Ao39, co39, eo39⟩ := Kd.R_slice HO193.out
        (first | subst eo39 | (injection eo39 with f1_ f2_ f3_; have f4_ := f1_.symm; have f5_ := f3_.symm; clear f1_ f2_ f3_; subst f4_; subst f5_))
        obtain ⟨Ao40, co40, eo40⟩ := Kd.R_slice HO196.out
        (first | subst eo40 | (injection eo40 with f1_ f2_ f3_; have f4_ := f1_.symm; have f5_ := f3_.symm; clear f1_ f2_ f3_; subst f4_; subst f5_))
        refine hK.out _ _ (((HB.out).cell HBl_.out).trans HBc_.out) (fun hHeld => ?_)
        clear hK K
        refine norm_ (a' := ?_) ?_ ?_
        rotate_left
        · show Act.put _ (some 45) _ = _
          simp only [Act.put, List.setIfInBounds_toArray, List.set_cons_zero, List.set_cons_succ, i64_w, i32_w]
          rfl
        refine one_ (i := 9) (N := some 46) #[true, true, true, true, true, true, true, true, true, true, false] rfl rfl (one_of HT_.out (by kernel_rfl)) (by decide) (fun K hK => ?_)
        refine goesV_ Try.func19 (by kernel_rfl) rfl #[.slice Ao39 t191.length co39, .slice Ao40 t194.length co40] #[.pointer (some ⟨B_, 0, none⟩)] #[.slice Ao39 t191.length co39, .slice Ao40 t194.length co40, .pointer (some ⟨B_, 0, none⟩)] rfl (by rfl) rfl rfl (by rfl) (by (try simp only [List.map_toArray, List.map_cons, List.map_nil]); first | done | rfl | (simp only [List.length_drop, List.length_take]; rfl)) ?_
        with_reducible refine (ih k (by omega) (fun k_ => some k_ = (.slice Ao39 t191.length co39 : Value).ownBlock) _ _ t191 (fun k_ => some k_ = (.slice Ao40 t194.length co40 : Value).ownBlock) _ _ t194 t197 _ ?sideB ?side1 ?side2 A13.out).mono ?_
        (case sideB => exact hHeld)
        (case side1 => exact Kd.R_V (Kd.R_tight rfl (HO193.out)))
        (case side2 => exact Kd.R_V (Kd.R_tight rfl (HO196.out)))
        rintro e w41 ⟨v198, rfl, ho0, hb⟩
        refine ⟨_, rfl, ?_⟩
        have n0_ := Aside0.mk (Kd.V_below (by (with_reducible repeat (first | apply Kd.V_alloc | apply Kd.V_drewN | apply Kd.V_drew)); exact HO0.out) hb)
        have n1_ := Aside0.mk (Kd.V_below (by (with_reducible repeat (first | apply Kd.V_alloc | apply Kd.V_drewN | apply Kd.V_drew)); exact HO1.out) hb)
        have n2_ := Aside0.mk (Kd.R_below (by (with_reducible repeat (first | apply Kd.R_alloc | apply Kd.R_drewN | apply Kd.R_drew)); exact HO184.out) hb)
        have n3_ := Aside0.mk (Kd.R_below (by (with_reducible repeat (first | apply Kd.R_alloc | apply Kd.R_drewN | apply Kd.R_drew)); exact HO187.out) hb)
        have n4_ := Aside0.mk (Kd.V_below (by (with_reducible repeat (first | apply Kd.V_alloc | apply Kd.V_drewN | apply Kd.V_drew)); exact HO190.out) hb)
        have n5_ := Aside0.mk (Kd.R_below (by (with_reducible repeat (first | apply Kd.R_alloc | apply Kd.R_drewN | apply Kd.R_drew)); exact HO193.out) hb)
        have n6_ := Aside0.mk (Kd.R_below (by (with_reducible repeat (first | apply Kd.R_alloc | apply Kd.R_drewN | apply Kd.R_drew)); exact HO196.out) hb)
        have n7_ := Aside0.mk (Kd.V_lower (Kd.V_mono (ok' := fun k_ => ((P0_ k_ ∨ P1_ k_) ∨ w.heap.size ≤ k_) ∧ some k_ ≠ (.slice Ao33 t182.length co33 : Value).ownBlock ∧ some k_ ≠ (.slice Ao34 t185.length co34 : Value).ownBlock) ho0 (fun k_ hk_ => ⟨Or.elim hk_ (fun hs_ => Or.elim hs_ (fun hs_ => (.inr (((HO193.out).1 k_ hs_.symm).1.1.1.1))) (fun hs_ => (.inr (((HO196.out).1 k_ hs_.symm).1.1.1.1)))) (fun hn_ => (.inr (Nat.le_trans (below_size (by repeat (first | (with_reducible first | exact HB.out | apply below_alloc | apply pw_below_drewN | apply below_drew1) | exact HB.out))) hn_))), Or.elim hk_ (fun hs_ => Or.elim hs_ (fun hs_ => ((HO193.out).1 k_ hs_.symm).1.1.2) (fun hs_ => ((HO196.out).1 k_ hs_.symm).1.1.2)) (fun hn_ => (Kd.fresh' (Kd.R_lt (by (with_reducible repeat (first | apply Kd.R_alloc | apply Kd.R_drewN | apply Kd.R_drew)); exact HO184.out)) k_ hn_)), Or.elim hk_ (fun hs_ => Or.elim hs_ (fun hs_ => ((HO193.out).1 k_ hs_.symm).1.2) (fun hs_ => ((HO196.out).1 k_ hs_.symm).1.2)) (fun hn_ => (Kd.fresh' (Kd.R_lt (by (with_reducible repeat (first | apply Kd.R_alloc | apply Kd.R_drewN | apply Kd.R_drew)); exact HO187.out)) k_ hn_))⟩)) (below_size (by repeat (first | (with_reducible first | exact HB.out | apply below_alloc | apply pw_below_drewN | apply below_drew1) | exact HB.out))))
        have n8_ := Aside0.mk (below_step (by repeat (first | (with_reducible first | exact HB.out | apply below_alloc | apply pw_below_drewN | apply below_drew1) | exact HB.out)) hb)
        clear HO0
        clear HO1
        clear HO184
        clear HO187
        clear HO190
        clear HO193
        clear HO196
        clear HB
        have HO0 := n0_
        have HO1 := n1_
        have HO184 := n2_
        have HO187 := n3_
        have HO190 := n4_
        have HO193 := n5_
        have HO196 := n6_
        have HO199 := n7_
        have HB := n8_
        clear n0_ n1_ n2_ n3_ n4_ n5_ n6_ n7_ n8_
        (try clear hb)
        (try clear hb2)
        (try clear hk)
        (try clear hi)
        (try clear ho0)
        refine hK.out _ _ (((HB.out).cell HBl_.out).trans HBc_.out) (fun hHeld => ?_)
        clear hK K
        refine norm_ (a' := ?_) ?_ ?_
        rotate_left
        · show Act.put _ (some 46) _ = _
          simp only [Act.put, List.setIfInBounds_toArray, List.set_cons_zero, List.set_cons_succ, i64_w, i32_w]
          rfl
        refine pure_ (i := 10) (N := some 9) (v := ?_) (a' := ?_) #[true, true, true, true, true, true, true, true, true, true, true] rfl rfl (any_of HT_.out (by kernel_rfl)) (fun _ _ _ h => h) (Or.inl ⟨by rfl, ?_⟩) ?_ ?_
        rotate_left
        · intro w'
          go_simp
          with_reducible rfl
        rotate_left
        · simp only [Act.put, List.setIfInBounds_toArray, List.set_cons_zero, List.set_cons_succ, i64_w, i32_w]
          rfl
        refine done_ (done_of HT_.out (by kernel_rfl)) ?_
        try go_wp2
        have n0_ := Aside0.mk (Kd.V_drew HO0.out)
        have n1_ := Aside0.mk (Kd.V_drew HO1.out)
        have n2_ := Aside0.mk (Kd.R_drew HO184.out)
        have n3_ := Aside0.mk (Kd.R_drew HO187.out)
        have n4_ := Aside0.mk (Kd.V_drew HO190.out)
        have n5_ := Aside0.mk (Kd.R_drew HO193.out)
        have n6_ := Aside0.mk (Kd.R_drew HO196.out)
        have n7_ := Aside0.mk (Kd.V_drew HO199.out)
        have n8_ := Aside0.mk (below_drew1 HB.out)
        clear HO0
        clear HO1
        clear HO184
        clear HO187
        clear HO190
        clear HO193
        clear HO196
        clear HO199
        clear HB
        have HO0 := n0_
        have HO1 := n1_
        have HO184 := n2_
        have HO187 := n3_
        have HO190 := n4_
        have HO193 := n5_
        have HO196 := n6_
        have HO199 := n7_
        have HB := n8_
        clear n0_ n1_ n2_ n3_ n4_ n5_ n6_ n7_ n8_
        refine start_ (n := 19) (S := fun w' => w'.cell? ⟨B_, 0, none⟩ = some (.func (.func 19) #[] #[.pointer (some ⟨B_, 0, none⟩)] : Value)) (ds := []) #[false, false, false, false, false, false, false, false, false, false, false, false, false, false, false, false, false, false, false] (by kernel_rfl) rfl rfl (((HB.out).cell HBl_.out).trans HBc_.out) (fun hHeld => ?_); refine with_tabW kara_Mul_1.tab7 kara_Mul_1.bits7 (fun HT_ HW_ => ?_)
        generalize w41.drew = w42 at HO0 HO1 HO184 HO187 HO190 HO193 HO196 HO199 HB hHeld ⊢
        refine pure_ (i := 1) (N := some 48) (v := ?_) (a' := ?_) #[false, true, false, false, false, false, false, false, false, false, false, false, false, false, false, false, false, false, false] rfl rfl (any_of HT_.out (by kernel_rfl)) (fun _ _ _ h => h) (Or.inl ⟨by rfl, ?_⟩) ?_ ?_
        rotate_left
        · intro w'
          go_simp
          with_reducible rfl
        rotate_left
        · simp only [Act.put, List.setIfInBounds_toArray, List.set_cons_zero, List.set_cons_succ, i64_w, i32_w]
          rfl
        refine pure_ (i := 2) (N := some 49) (v := ?_) (a' := ?_) #[false, true, true, false, false, false, false, false, false, false, false, false, false, false, false, false, false, false, false] rfl rfl (any_of HT_.out (by kernel_rfl)) (fun _ _ _ h => h) (Or.inl ⟨by rfl, ?_⟩) ?_ ?_
        rotate_left
        · intro w'
          go_simp
          with_reducible rfl
        rotate_left
        · simp only [Act.put, List.setIfInBounds_toArray, List.set_cons_zero, List.set_cons_succ, i64_w, i32_w]
          rfl
        refine pure_ (i := 4) (N := some 51) (v := ?_) (a' := ?_) #[false, true, true, false, true, false, false, false, false, false, false, false, false, false, false, false, false, false, false] rfl rfl (any_of HT_.out (by kernel_rfl)) (fun _ _ _ h => h) (Or.inl ⟨by rfl, ?_⟩) ?_ ?_
        rotate_left
        · intro w'
          go_simp
          with_reducible rfl
        rotate_left
        · simp only [Act.put, List.setIfInBounds_toArray, List.set_cons_zero, List.set_cons_succ, i64_w, i32_w]
          rfl
        refine pure_ (i := 5) (N := some 52) (v := ?_) (a' := ?_) #[false, true, true, false, true, true, false, false, false, false, false, false, false, false, false, false, false, false, false] rfl rfl (any_of HT_.out (by kernel_rfl)) (fun _ _ _ h => h) (Or.inl ⟨by rfl, ?_⟩) ?_ ?_
        rotate_left
        · intro w'
          go_simp
          with_reducible rfl
        rotate_left
        · simp only [Act.put, List.setIfInBounds_toArray, List.set_cons_zero, List.set_cons_succ, i64_w, i32_w]
          rfl
        refine pure_ (i := 6) (N := some 53) (v := ?_) (a' := ?_) #[false, true, true, false, true, true, true, false, false, false, false, false, false, false, false, false, false, false, false] rfl rfl (any_of HT_.out (by kernel_rfl)) (fun _ _ _ h => h) (Or.inl ⟨by rfl, ?_⟩) ?_ ?_
        rotate_left
        · intro w'
          go_simp
          with_reducible rfl
        rotate_left
        · simp only [Act.put, List.setIfInBounds_toArray, List.set_cons_zero, List.set_cons_succ, i64_w, i32_w]
          rfl
        refine pure_ (i := 9) (N := some 56) (v := ?_) (a' := ?_) #[false, true, true, false, true, true, true, false, false, true, false, false, false, false, false, false, false, false, false] rfl rfl (any_of HT_.out (by kernel_rfl)) (fun _ _ _ h => h) (Or.inl ⟨by rfl, ?_⟩) ?_ ?_
        rotate_left
        · intro w'
          go_simp
          with_reducible rfl
        rotate_left
        · simp only [Act.put, List.setIfInBounds_toArray, List.set_cons_zero, List.set_cons_succ, i64_w, i32_w]
          rfl
        refine pure_ (i := 10) (N := some 57) (v := ?_) (a' := ?_) #[false, true, true, false, true, true, true, false, false, true, true, false, false, false, false, false, false, false, false] rfl rfl (any_of HT_.out (by kernel_rfl)) (fun _ _ _ h => h) (Or.inl ⟨by rfl, ?_⟩) ?_ ?_
        rotate_left
        · intro w'
          go_simp
          with_reducible rfl
        rotate_left
        · simp only [Act.put, List.setIfInBounds_toArray, List.set_cons_zero, List.set_cons_succ, i64_w, i32_w]
          rfl
        refine pure_ (i := 12) (N := some 59) (v := ?_) (a' := ?_) #[false, true, true, false, true, true, true, false, false, true, true, false, true, false, false, false, false, false, false] rfl rfl (any_of HT_.out (by kernel_rfl)) (fun _ _ _ h => h) (Or.inl ⟨by rfl, ?_⟩) ?_ ?_
        rotate_left
        · intro w'
          go_simp
          with_reducible rfl
        rotate_left
        · simp only [Act.put, List.setIfInBounds_toArray, List.set_cons_zero, List.set_cons_succ, i64_w, i32_w]
          rfl
        refine pure_ (i := 13) (N := some 60) (v := ?_) (a' := ?_) #[false, true, true, false, true, true, true, false, false, true, true, false, true, true, false, false, false, false, false] rfl rfl (any_of HT_.out (by kernel_rfl)) (fun _ _ _ h => h) (Or.inl ⟨by rfl, ?_⟩) ?_ ?_
        rotate_left
        · intro w'
          go_simp
          with_reducible rfl
        rotate_left
        · simp only [Act.put, List.setIfInBounds_toArray, List.set_cons_zero, List.set_cons_succ, i64_w, i32_w]
          rfl
        refine pure_ (i := 14) (N := some 61) (v := ?_) (a' := ?_) #[false, true, true, false, true, true, true, false, false, true, true, false, true, true, true, false, false, false, false] rfl rfl (any_of HT_.out (by kernel_rfl)) (fun _ _ _ h => h) (Or.inl ⟨by rfl, ?_⟩) ?_ ?_
        rotate_left
        · intro w'
          go_simp
          with_reducible rfl
        rotate_left
        · simp only [Act.put, List.setIfInBounds_toArray, List.set_cons_zero, List.set_cons_succ, i64_w, i32_w]
          rfl
        refine take_ (i := 0) (N := some 47) (v := ?_) (a' := ?_) #[true, true, true, false, true, true, true, false, false, true, true, false, true, true, true, false, false, false, false] rfl rfl (take_ofW HT_.out HW_.out (by kernel_rfl)) (fun _ _ _ h => h) (Or.inl ⟨by rfl, ?_⟩) hHeld ?_ ?_
        rotate_left
        · intro w' s0
          go_simp
          with_reducible rfl
        rotate_left
        · simp only [Act.put, List.setIfInBounds_toArray, List.set_cons_zero, List.set_cons_succ, i64_w, i32_w]
          rfl
        refine one_ (i := 3) (N := some 50) #[true, true, true, true, true, true, true, false, false, true, true, false, true, true, true, false, false, false, false] rfl rfl (one_of HT_.out (by kernel_rfl)) (by decide) (fun K hK => ?_)
        refine goes_ Try.func21 (by kernel_rfl) rfl #[.slice A0 l0.length c0, .int .i64 0, .int .i64 (wrap64 (Int.tdiv (wrap64 ((ji3) + 1)) 2))] (by rfl) rfl rfl (by (try simp only [List.map_toArray, List.map_cons, List.map_nil]); first | done | (simp only [hji3]; rfl) | rfl | (simp only [List.length_drop, List.length_take]; rfl)) ?_
        with_reducible refine (kara_part.calls k _ _ l0 0 (wrap64 (Int.tdiv (wrap64 ((ji3) + 1)) 2)) t200 _ ?side1 ?side2 A14.out).mono ?_
        (case side1 => repeat (first | exact (Kd.V_reads' HO0.out).2.2 | (with_reducible refine Kd.C_alloc ?_ _) | (with_reducible refine Kd.C_drewN ?_ _) | (with_reducible refine Kd.C_drew ?_)))
        (case side2 => exact (Kd.V_reads' HO0.out).2.1)
        rintro e w43 ⟨v201, rfl, ho0, hb⟩
        refine ⟨_, rfl, ?_⟩
        have n0_ := Aside0.mk (Kd.V_elder' (by (with_reducible repeat (first | apply Kd.V_alloc | apply Kd.V_drewN | apply Kd.V_drew)); exact HO0.out) (Kd.R_base ho0) hb)
        have n1_ := Aside0.mk (Kd.V_elder' (by (with_reducible repeat (first | apply Kd.V_alloc | apply Kd.V_drewN | apply Kd.V_drew)); exact HO1.out) (Kd.R_base ho0) hb)
        have n2_ := Aside0.mk (Kd.R_elder' (by (with_reducible repeat (first | apply Kd.R_alloc | apply Kd.R_drewN | apply Kd.R_drew)); exact HO184.out) (Kd.R_base ho0) hb)
        have n3_ := Aside0.mk (Kd.R_elder' (by (with_reducible repeat (first | apply Kd.R_alloc | apply Kd.R_drewN | apply Kd.R_drew)); exact HO187.out) (Kd.R_base ho0) hb)
        have n4_ := Aside0.mk (Kd.V_elder' (by (with_reducible repeat (first | apply Kd.V_alloc | apply Kd.V_drewN | apply Kd.V_drew)); exact HO190.out) (Kd.R_base ho0) hb)
        have n5_ := Aside0.mk (Kd.R_elder' (by (with_reducible repeat (first | apply Kd.R_alloc | apply Kd.R_drewN | apply Kd.R_drew)); exact HO193.out) (Kd.R_base ho0) hb)
        have n6_ := Aside0.mk (Kd.R_elder' (by (with_reducible repeat (first | apply Kd.R_alloc | apply Kd.R_drewN | apply Kd.R_drew)); exact HO196.out) (Kd.R_base ho0) hb)
        have n7_ := Aside0.mk (Kd.V_elder' (by (with_reducible repeat (first | apply Kd.V_alloc | apply Kd.V_drewN | apply Kd.V_drew)); exact HO199.out) (Kd.R_base ho0) hb)
        have n8_ := Aside0.mk (Kd.R_lower (Kd.R_new' (Kd.R_new' (Kd.R_new' (Kd.R_new' (Kd.R_newM (M := fun k_ => (w.heap.size ≤ k_)) ho0 (below_size (by repeat (first | (with_reducible first | exact HB.out | apply below_alloc | apply pw_below_drewN | apply below_drew1) | exact HB.out))) (fun k_ h_ => h_)) (Kd.R_lt (by (with_reducible repeat (first | apply Kd.R_alloc | apply Kd.R_drewN | apply Kd.R_drew)); exact HO184.out))) (Kd.R_lt (by (with_reducible repeat (first | apply Kd.R_alloc | apply Kd.R_drewN | apply Kd.R_drew)); exact HO187.out))) (Kd.R_lt (by (with_reducible repeat (first | apply Kd.R_alloc | apply Kd.R_drewN | apply Kd.R_drew)); exact HO193.out))) (Kd.R_lt (by (with_reducible repeat (first | apply Kd.R_alloc | apply Kd.R_drewN | apply Kd.R_drew)); exact HO196.out))) (below_size (by repeat (first | (with_reducible first | exact HB.out | apply below_alloc | apply pw_below_drewN | apply below_drew1) | exact HB.out))))
        have n9_ := Aside0.mk (below_step (by repeat (first | (with_reducible first | exact HB.out | apply below_alloc | apply pw_below_drewN | apply below_drew1) | exact HB.out)) hb)
        clear HO0
        clear HO1
        clear HO184
        clear HO187
        clear HO190
        clear HO193
        clear HO196
        clear HO199
        clear HB
        have HO0 := n0_
        have HO1 := n1_
        have HO184 := n2_
        have HO187 := n3_
        have HO190 := n4_
        have HO193 := n5_
        have HO196 := n6_
        have HO199 := n7_
        have HO202 := n8_
        have HB := n9_
        clear n0_ n1_ n2_ n3_ n4_ n5_ n6_ n7_ n8_ n9_
        (try clear hb)
        (try clear hb2)
        (try clear hk)
        (try clear hi)
        (try clear ho0)
        refine hK.out _ _ (((HB.out).cell HBl_.out).trans HBc_.out) (fun hHeld => ?_)
        clear hK K
        refine norm_ (a' := ?_) ?_ ?_
        rotate_left
        · show Act.put _ (some 50) _ = _
          simp only [Act.put, List.setIfInBounds_toArray, List.set_cons_zero, List.set_cons_succ, i64_w, i32_w]
          rfl
        refine one_ (i := 7) (N := some 54) #[true, true, true, true, true, true, true, true, false, true, true, false, true, true, true, false, false, false, false] rfl rfl (one_of HT_.out (by kernel_rfl)) (by decide) (fun K hK => ?_)
        refine goes_ Try.func21 (by kernel_rfl) rfl #[.slice A0 l0.length c0, .int .i64 (wrap64 (Int.tdiv (wrap64 ((ji3) + 1)) 2)), .int .i64 ji3] (by rfl) rfl rfl (by (try simp only [List.map_toArray, List.map_cons, List.map_nil]); first | done | (simp only [hji3]; rfl) | rfl | (simp only [List.length_drop, List.length_take]; rfl)) ?_
        with_reducible refine (kara_part.calls k _ _ l0 (wrap64 (Int.tdiv (wrap64 ((ji3) + 1)) 2)) ji3 t203 _ ?side1 ?side2 A15.out).mono ?_
        (case side1 => repeat (first | exact (Kd.V_reads' HO0.out).2.2 | (with_reducible refine Kd.C_alloc ?_ _) | (with_reducible refine Kd.C_drewN ?_ _) | (with_reducible refine Kd.C_drew ?_)))
        (case side2 => exact (Kd.V_reads' HO0.out).2.1)
        rintro e w44 ⟨v204, rfl, ho0, hb⟩
        refine ⟨_, rfl, ?_⟩
        have n0_ := Aside0.mk (Kd.V_elder' (by (with_reducible repeat (first | apply Kd.V_alloc | apply Kd.V_drewN | apply Kd.V_drew)); exact HO0.out) (Kd.R_base ho0) hb)
        have n1_ := Aside0.mk (Kd.V_elder' (by (with_reducible repeat (first | apply Kd.V_alloc | apply Kd.V_drewN | apply Kd.V_drew)); exact HO1.out) (Kd.R_base ho0) hb)
        have n2_ := Aside0.mk (Kd.R_elder' (by (with_reducible repeat (first | apply Kd.R_alloc | apply Kd.R_drewN | apply Kd.R_drew)); exact HO184.out) (Kd.R_base ho0) hb)
        have n3_ := Aside0.mk (Kd.R_elder' (by (with_reducible repeat (first | apply Kd.R_alloc | apply Kd.R_drewN | apply Kd.R_drew)); exact HO187.out) (Kd.R_base ho0) hb)
        have n4_ := Aside0.mk (Kd.V_elder' (by (with_reducible repeat (first | apply Kd.V_alloc | apply Kd.V_drewN | apply Kd.V_drew)); exact HO190.out) (Kd.R_base ho0) hb)
        have n5_ := Aside0.mk (Kd.R_elder' (by (with_reducible repeat (first | apply Kd.R_alloc | apply Kd.R_drewN | apply Kd.R_drew)); exact HO193.out) (Kd.R_base ho0) hb)
        have n6_ := Aside0.mk (Kd.R_elder' (by (with_reducible repeat (first | apply Kd.R_alloc | apply Kd.R_drewN | apply Kd.R_drew)); exact HO196.out) (Kd.R_base ho0) hb)
        have n7_ := Aside0.mk (Kd.V_elder' (by (with_reducible repeat (first | apply Kd.V_alloc | apply Kd.V_drewN | apply Kd.V_drew)); exact HO199.out) (Kd.R_base ho0) hb)
        have n8_ := Aside0.mk (Kd.R_elder' (by (with_reducible repeat (first | apply Kd.R_alloc | apply Kd.R_drewN | apply Kd.R_drew)); exact HO202.out) (Kd.R_base ho0) hb)
        have n9_ := Aside0.mk (Kd.R_lower (Kd.R_new' (Kd.R_new' (Kd.R_new' (Kd.R_new' (Kd.R_new' (Kd.R_newM (M := fun k_ => (w.heap.size ≤ k_)) ho0 (below_size (by repeat (first | (with_reducible first | exact HB.out | apply below_alloc | apply pw_below_drewN | apply below_drew1) | exact HB.out))) (fun k_ h_ => h_)) (Kd.R_lt (by (with_reducible repeat (first | apply Kd.R_alloc | apply Kd.R_drewN | apply Kd.R_drew)); exact HO184.out))) (Kd.R_lt (by (with_reducible repeat (first | apply Kd.R_alloc | apply Kd.R_drewN | apply Kd.R_drew)); exact HO187.out))) (Kd.R_lt (by (with_reducible repeat (first | apply Kd.R_alloc | apply Kd.R_drewN | apply Kd.R_drew)); exact HO193.out))) (Kd.R_lt (by (with_reducible repeat (first | apply Kd.R_alloc | apply Kd.R_drewN | apply Kd.R_drew)); exact HO196.out))) (Kd.R_lt (by (with_reducible repeat (first | apply Kd.R_alloc | apply Kd.R_drewN | apply Kd.R_drew)); exact HO202.out))) (below_size (by repeat (first | (with_reducible first | exact HB.out | apply below_alloc | apply pw_below_drewN | apply below_drew1) | exact HB.out))))
        have n10_ := Aside0.mk (below_step (by repeat (first | (with_reducible first | exact HB.out | apply below_alloc | apply pw_below_drewN | apply below_drew1) | exact HB.out)) hb)
        clear HO0
        clear HO1
        clear HO184
        clear HO187
        clear HO190
        clear HO193
        clear HO196
        clear HO199
        clear HO202
        clear HB
        have HO0 := n0_
        have HO1 := n1_
        have HO184 := n2_
        have HO187 := n3_
        have HO190 := n4_
        have HO193 := n5_
        have HO196 := n6_
        have HO199 := n7_
        have HO202 := n8_
        have HO205 := n9_
        have HB := n10_
        clear n0_ n1_ n2_ n3_ n4_ n5_ n6_ n7_ n8_ n9_ n10_
        (try clear hb)
        (try clear hb2)
        (try clear hk)
        (try clear hi)
        (try clear ho0)
        obtain ⟨Ao45, co45, eo45⟩ := Kd.R_slice HO202.out
        (first | subst eo45 | (injection eo45 with f1_ f2_ f3_; have f4_ := f1_.symm; have f5_ := f3_.symm; clear f1_ f2_ f3_; subst f4_; subst f5_))
        obtain ⟨Ao46, co46, eo46⟩ := Kd.R_slice HO205.out
        (first | subst eo46 | (injection eo46 with f1_ f2_ f3_; have f4_ := f1_.symm; have f5_ := f3_.symm; clear f1_ f2_ f3_; subst f4_; subst f5_))
        refine hK.out _ _ (((HB.out).cell HBl_.out).trans HBc_.out) (fun hHeld => ?_)
        clear hK K
        refine norm_ (a' := ?_) ?_ ?_
        rotate_left
        · show Act.put _ (some 54) _ = _
          simp only [Act.put, List.setIfInBounds_toArray, List.set_cons_zero, List.set_cons_succ, i64_w, i32_w]
          rfl
        refine one_ (i := 8) (N := some 55) #[true, true, true, true, true, true, true, true, true, true, true, false, true, true, true, false, false, false, false] rfl rfl (one_of HT_.out (by kernel_rfl)) (by decide) (fun K hK => ?_)
        refine goes_ Try.func15 (by kernel_rfl) rfl #[.slice Ao45 t200.length co45, .slice Ao46 t203.length co46] (by rfl) rfl rfl (by (try simp only [List.map_toArray, List.map_cons, List.map_nil]); first | done | rfl | (simp only [List.length_drop, List.length_take]; rfl)) ?_
        with_reducible refine (nat_Add.calls k (fun k_ => some k_ = (.slice Ao45 t200.length co45 : Value).ownBlock) _ _ t200 (fun k_ => some k_ = (.slice Ao46 t203.length co46 : Value).ownBlock) _ _ t203 t206 _ ?side1 ?side2 A16.out).mono ?_
        (case side1 => exact Kd.R_V (Kd.R_tight rfl (HO202.out)))
        (case side2 => exact Kd.R_V (Kd.R_tight rfl (HO205.out)))
        rintro e w47 ⟨v207, rfl, ho0, hb⟩
        refine ⟨_, rfl, ?_⟩
        have n0_ := Aside0.mk (Kd.V_below (by (with_reducible repeat (first | apply Kd.V_alloc | apply Kd.V_drewN | apply Kd.V_drew)); exact HO0.out) hb)
        have n1_ := Aside0.mk (Kd.V_below (by (with_reducible repeat (first | apply Kd.V_alloc | apply Kd.V_drewN | apply Kd.V_drew)); exact HO1.out) hb)
        have n2_ := Aside0.mk (Kd.R_below (by (with_reducible repeat (first | apply Kd.R_alloc | apply Kd.R_drewN | apply Kd.R_drew)); exact HO184.out) hb)
        have n3_ := Aside0.mk (Kd.R_below (by (with_reducible repeat (first | apply Kd.R_alloc | apply Kd.R_drewN | apply Kd.R_drew)); exact HO187.out) hb)
        have n4_ := Aside0.mk (Kd.V_below (by (with_reducible repeat (first | apply Kd.V_alloc | apply Kd.V_drewN | apply Kd.V_drew)); exact HO190.out) hb)
        have n5_ := Aside0.mk (Kd.R_below (by (with_reducible repeat (first | apply Kd.R_alloc | apply Kd.R_drewN | apply Kd.R_drew)); exact HO193.out) hb)
        have n6_ := Aside0.mk (Kd.R_below (by (with_reducible repeat (first | apply Kd.R_alloc | apply Kd.R_drewN | apply Kd.R_drew)); exact HO196.out) hb)
        have n7_ := Aside0.mk (Kd.V_below (by (with_reducible repeat (first | apply Kd.V_alloc | apply Kd.V_drewN | apply Kd.V_drew)); exact HO199.out) hb)
        have n8_ := Aside0.mk (Kd.R_below (by (with_reducible repeat (first | apply Kd.R_alloc | apply Kd.R_drewN | apply Kd.R_drew)); exact HO202.out) hb)
        have n9_ := Aside0.mk (Kd.R_below (by (with_reducible repeat (first | apply Kd.R_alloc | apply Kd.R_drewN | apply Kd.R_drew)); exact HO205.out) hb)
        have n10_ := Aside0.mk (Kd.V_lower (Kd.V_mono (ok' := fun k_ => ((P0_ k_ ∨ P1_ k_) ∨ w.heap.size ≤ k_) ∧ some k_ ≠ (.slice Ao33 t182.length co33 : Value).ownBlock ∧ some k_ ≠ (.slice Ao34 t185.length co34 : Value).ownBlock ∧ some k_ ≠ (.slice Ao39 t191.length co39 : Value).ownBlock ∧ some k_ ≠ (.slice Ao40 t194.length co40 : Value).ownBlock) ho0 (fun k_ hk_ => ⟨Or.elim hk_ (fun hs_ => Or.elim hs_ (fun hs_ => (.inr (((HO202.out).1 k_ hs_.symm).1.1.1.1.1.1))) (fun hs_ => (.inr (((HO205.out).1 k_ hs_.symm).1.1.1.1.1.1)))) (fun hn_ => (.inr (Nat.le_trans (below_size (by repeat (first | (with_reducible first | exact HB.out | apply below_alloc | apply pw_below_drewN | apply below_drew1) | exact HB.out))) hn_))), Or.elim hk_ (fun hs_ => Or.elim hs_ (fun hs_ => ((HO202.out).1 k_ hs_.symm).1.1.1.1.2) (fun hs_ => ((HO205.out).1 k_ hs_.symm).1.1.1.1.2)) (fun hn_ => (Kd.fresh' (Kd.R_lt (by (with_reducible repeat (first | apply Kd.R_alloc | apply Kd.R_drewN | apply Kd.R_drew)); exact HO184.out)) k_ hn_)), Or.elim hk_ (fun hs_ => Or.elim hs_ (fun hs_ => ((HO202.out).1 k_ hs_.symm).1.1.1.2) (fun hs_ => ((HO205.out).1 k_ hs_.symm).1.1.1.2)) (fun hn_ => (Kd.fresh' (Kd.R_lt (by (with_reducible repeat (first | apply Kd.R_alloc | apply Kd.R_drewN | apply Kd.R_drew)); exact HO187.out)) k_ hn_)), Or.elim hk_ (fun hs_ => Or.elim hs_ (fun hs_ => ((HO202.out).1 k_ hs_.symm).1.1.2) (fun hs_ => ((HO205.out).1 k_ hs_.symm).1.1.2)) (fun hn_ => (Kd.fresh' (Kd.R_lt (by (with_reducible repeat (first | apply Kd.R_alloc | apply Kd.R_drewN | apply Kd.R_drew)); exact HO193.out)) k_ hn_)), Or.elim hk_ (fun hs_ => Or.elim hs_ (fun hs_ => ((HO202.out).1 k_ hs_.symm).1.2) (fun hs_ => ((HO205.out).1 k_ hs_.symm).1.2)) (fun hn_ => (Kd.fresh' (Kd.R_lt (by (with_reducible repeat (first | apply Kd.R_alloc | apply Kd.R_drewN | apply Kd.R_drew)); exact HO196.out)) k_ hn_))⟩)) (below_size (by repeat (first | (with_reducible first | exact HB.out | apply below_alloc | apply pw_below_drewN | apply below_drew1) | exact HB.out))))
        have n11_ := Aside0.mk (below_step (by repeat (first | (with_reducible first | exact HB.out | apply below_alloc | apply pw_below_drewN | apply below_drew1) | exact HB.out)) hb)
        clear HO0
        clear HO1
        clear HO184
        clear HO187
        clear HO190
        clear HO193
        clear HO196
        clear HO199
        clear HO202
        clear HO205
        clear HB
        have HO0 := n0_
        have HO1 := n1_
        have HO184 := n2_
        have HO187 := n3_
        have HO190 := n4_
        have HO193 := n5_
        have HO196 := n6_
        have HO199 := n7_
        have HO202 := n8_
        have HO205 := n9_
        have HO208 := n10_
        have HB := n11_
        clear n0_ n1_ n2_ n3_ n4_ n5_ n6_ n7_ n8_ n9_ n10_ n11_
        (try clear hb)
        (try clear hb2)
        (try clear hk)
        (try clear hi)
        (try clear ho0)
        refine hK.out _ _ (((HB.out).cell HBl_.out).trans HBc_.out) (fun hHeld => ?_)
        clear hK K
        refine norm_ (a' := ?_) ?_ ?_
        rotate_left
        · show Act.put _ (some 55) _ = _
          simp only [Act.put, List.setIfInBounds_toArray, List.set_cons_zero, List.set_cons_succ, i64_w, i32_w]
          rfl
        refine one_ (i := 11) (N := some 58) #[true, true, true, true, true, true, true, true, true, true, true, true, true, true, true, false, false, false, false] rfl rfl (one_of HT_.out (by kernel_rfl)) (by decide) (fun K hK => ?_)
        refine goes_ Try.func21 (by kernel_rfl) rfl #[.slice A1 l1.length c1, .int .i64 0, .int .i64 (wrap64 (Int.tdiv (wrap64 ((ji3) + 1)) 2))] (by rfl) rfl rfl (by (try simp only [List.map_toArray, List.map_cons, List.map_nil]); first | done | (simp only [hji3]; rfl) | rfl | (simp only [List.length_drop, List.length_take]; rfl)) ?_
        with_reducible refine (kara_part.calls k _ _ l1 0 (wrap64 (Int.tdiv (wrap64 ((ji3) + 1)) 2)) t209 _ ?side1 ?side2 A17.out).mono ?_
        (case side1 => repeat (first | exact (Kd.V_reads' HO1.out).2.2 | (with_reducible refine Kd.C_alloc ?_ _) | (with_reducible refine Kd.C_drewN ?_ _) | (with_reducible refine Kd.C_drew ?_)))
        (case side2 => exact (Kd.V_reads' HO1.out).2.1)
        rintro e w48 ⟨v210, rfl, ho0, hb⟩
        refine ⟨_, rfl, ?_⟩
        have n0_ := Aside0.mk (Kd.V_elder' (by (with_reducible repeat (first | apply Kd.V_alloc | apply Kd.V_drewN | apply Kd.V_drew)); exact HO0.out) (Kd.R_base ho0) hb)
        have n1_ := Aside0.mk (Kd.V_elder' (by (with_reducible repeat (first | apply Kd.V_alloc | apply Kd.V_drewN | apply Kd.V_drew)); exact HO1.out) (Kd.R_base ho0) hb)
        have n2_ := Aside0.mk (Kd.R_elder' (by (with_reducible repeat (first | apply Kd.R_alloc | apply Kd.R_drewN | apply Kd.R_drew)); exact HO184.out) (Kd.R_base ho0) hb)
        have n3_ := Aside0.mk (Kd.R_elder' (by (with_reducible repeat (first | apply Kd.R_alloc | apply Kd.R_drewN | apply Kd.R_drew)); exact HO187.out) (Kd.R_base ho0) hb)
        have n4_ := Aside0.mk (Kd.V_elder' (by (with_reducible repeat (first | apply Kd.V_alloc | apply Kd.V_drewN | apply Kd.V_drew)); exact HO190.out) (Kd.R_base ho0) hb)
        have n5_ := Aside0.mk (Kd.R_elder' (by (with_reducible repeat (first | apply Kd.R_alloc | apply Kd.R_drewN | apply Kd.R_drew)); exact HO193.out) (Kd.R_base ho0) hb)
        have n6_ := Aside0.mk (Kd.R_elder' (by (with_reducible repeat (first | apply Kd.R_alloc | apply Kd.R_drewN | apply Kd.R_drew)); exact HO196.out) (Kd.R_base ho0) hb)
        have n7_ := Aside0.mk (Kd.V_elder' (by (with_reducible repeat (first | apply Kd.V_alloc | apply Kd.V_drewN | apply Kd.V_drew)); exact HO199.out) (Kd.R_base ho0) hb)
        have n8_ := Aside0.mk (Kd.R_elder' (by (with_reducible repeat (first | apply Kd.R_alloc | apply Kd.R_drewN | apply Kd.R_drew)); exact HO202.out) (Kd.R_base ho0) hb)
        have n9_ := Aside0.mk (Kd.R_elder' (by (with_reducible repeat (first | apply Kd.R_alloc | apply Kd.R_drewN | apply Kd.R_drew)); exact HO205.out) (Kd.R_base ho0) hb)
        have n10_ := Aside0.mk (Kd.V_elder' (by (with_reducible repeat (first | apply Kd.V_alloc | apply Kd.V_drewN | apply Kd.V_drew)); exact HO208.out) (Kd.R_base ho0) hb)
        have n11_ := Aside0.mk (Kd.R_lower (Kd.R_new' (Kd.R_new' (Kd.R_new' (Kd.R_new' (Kd.R_new' (Kd.R_new' (Kd.R_newM (M := fun k_ => (w.heap.size ≤ k_)) ho0 (below_size (by repeat (first | (with_reducible first | exact HB.out | apply below_alloc | apply pw_below_drewN | apply below_drew1) | exact HB.out))) (fun k_ h_ => h_)) (Kd.R_lt (by (with_reducible repeat (first | apply Kd.R_alloc | apply Kd.R_drewN | apply Kd.R_drew)); exact HO184.out))) (Kd.R_lt (by (with_reducible repeat (first | apply Kd.R_alloc | apply Kd.R_drewN | apply Kd.R_drew)); exact HO187.out))) (Kd.R_lt (by (with_reducible repeat (first | apply Kd.R_alloc | apply Kd.R_drewN | apply Kd.R_drew)); exact HO193.out))) (Kd.R_lt (by (with_reducible repeat (first | apply Kd.R_alloc | apply Kd.R_drewN | apply Kd.R_drew)); exact HO196.out))) (Kd.R_lt (by (with_reducible repeat (first | apply Kd.R_alloc | apply Kd.R_drewN | apply Kd.R_drew)); exact HO202.out))) (Kd.R_lt (by (with_reducible repeat (first | apply Kd.R_alloc | apply Kd.R_drewN | apply Kd.R_drew)); exact HO205.out))) (below_size (by repeat (first | (with_reducible first | exact HB.out | apply below_alloc | apply pw_below_drewN | apply below_drew1) | exact HB.out))))
        have n12_ := Aside0.mk (below_step (by repeat (first | (with_reducible first | exact HB.out | apply below_alloc | apply pw_below_drewN | apply below_drew1) | exact HB.out)) hb)
        clear HO0
        clear HO1
        clear HO184
        clear HO187
        clear HO190
        clear HO193
        clear HO196
        clear HO199
        clear HO202
        clear HO205
        clear HO208
        clear HB
        have HO0 := n0_
        have HO1 := n1_
        have HO184 := n2_
        have HO187 := n3_
        have HO190 := n4_
        have HO193 := n5_
        have HO196 := n6_
        have HO199 := n7_
        have HO202 := n8_
        have HO205 := n9_
        have HO208 := n10_
        have HO211 := n11_
        have HB := n12_
        clear n0_ n1_ n2_ n3_ n4_ n5_ n6_ n7_ n8_ n9_ n10_ n11_ n12_
        (try clear hb)
        (try clear hb2)
        (try clear hk)
        (try clear hi)
        (try clear ho0)
        refine hK.out _ _ (((HB.out).cell HBl_.out).trans HBc_.out) (fun hHeld => ?_)
        clear hK K
        refine norm_ (a' := ?_) ?_ ?_
        rotate_left
        · show Act.put _ (some 58) _ = _
          simp only [Act.put, List.setIfInBounds_toArray, List.set_cons_zero, List.set_cons_succ, i64_w, i32_w]
          rfl
        refine one_ (i := 15) (N := some 62) #[true, true, true, true, true, true, true, true, true, true, true, true, true, true, true, true, false, false, false] rfl rfl (one_of HT_.out (by kernel_rfl)) (by decide) (fun K hK => ?_)
        refine goes_ Try.func21 (by kernel_rfl) rfl #[.slice A1 l1.length c1, .int .i64 (wrap64 (Int.tdiv (wrap64 ((ji3) + 1)) 2)), .int .i64 ji3] (by rfl) rfl rfl (by (try simp only [List.map_toArray, List.map_cons, List.map_nil]); first | done | (simp only [hji3]; rfl) | rfl | (simp only [List.length_drop, List.length_take]; rfl)) ?_
        with_reducible refine (kara_part.calls k _ _ l1 (wrap64 (Int.tdiv (wrap64 ((ji3) + 1)) 2)) ji3 t212 _ ?side1 ?side2 A18.out).mono ?_
        (case side1 => repeat (first | exact (Kd.V_reads' HO1.out).2.2 | (with_reducible refine Kd.C_alloc ?_ _) | (with_reducible refine Kd.C_drewN ?_ _) | (with_reducible refine Kd.C_drew ?_)))
        (case side2 => exact (Kd.V_reads' HO1.out).2.1)
        rintro e w49 ⟨v213, rfl, ho0, hb⟩
        refine ⟨_, rfl, ?_⟩
        have n0_ := Aside0.mk (Kd.V_elder' (by (with_reducible repeat (first | apply Kd.V_alloc | apply Kd.V_drewN | apply Kd.V_drew)); exact HO0.out) (Kd.R_base ho0) hb)
        have n1_ := Aside0.mk (Kd.V_elder' (by (with_reducible repeat (first | apply Kd.V_alloc | apply Kd.V_drewN | apply Kd.V_drew)); exact HO1.out) (Kd.R_base ho0) hb)
        have n2_ := Aside0.mk (Kd.R_elder' (by (with_reducible repeat (first | apply Kd.R_alloc | apply Kd.R_drewN | apply Kd.R_drew)); exact HO184.out) (Kd.R_base ho0) hb)
        have n3_ := Aside0.mk (Kd.R_elder' (by (with_reducible repeat (first | apply Kd.R_alloc | apply Kd.R_drewN | apply Kd.R_drew)); exact HO187.out) (Kd.R_base ho0) hb)
        have n4_ := Aside0.mk (Kd.V_elder' (by (with_reducible repeat (first | apply Kd.V_alloc | apply Kd.V_drewN | apply Kd.V_drew)); exact HO190.out) (Kd.R_base ho0) hb)
        have n5_ := Aside0.mk (Kd.R_elder' (by (with_reducible repeat (first | apply Kd.R_alloc | apply Kd.R_drewN | apply Kd.R_drew)); exact HO193.out) (Kd.R_base ho0) hb)
        have n6_ := Aside0.mk (Kd.R_elder' (by (with_reducible repeat (first | apply Kd.R_alloc | apply Kd.R_drewN | apply Kd.R_drew)); exact HO196.out) (Kd.R_base ho0) hb)
        have n7_ := Aside0.mk (Kd.V_elder' (by (with_reducible repeat (first | apply Kd.V_alloc | apply Kd.V_drewN | apply Kd.V_drew)); exact HO199.out) (Kd.R_base ho0) hb)
        have n8_ := Aside0.mk (Kd.R_elder' (by (with_reducible repeat (first | apply Kd.R_alloc | apply Kd.R_drewN | apply Kd.R_drew)); exact HO202.out) (Kd.R_base ho0) hb)
        have n9_ := Aside0.mk (Kd.R_elder' (by (with_reducible repeat (first | apply Kd.R_alloc | apply Kd.R_drewN | apply Kd.R_drew)); exact HO205.out) (Kd.R_base ho0) hb)
        have n10_ := Aside0.mk (Kd.V_elder' (by (with_reducible repeat (first | apply Kd.V_alloc | apply Kd.V_drewN | apply Kd.V_drew)); exact HO208.out) (Kd.R_base ho0) hb)
        have n11_ := Aside0.mk (Kd.R_elder' (by (with_reducible repeat (first | apply Kd.R_alloc | apply Kd.R_drewN | apply Kd.R_drew)); exact HO211.out) (Kd.R_base ho0) hb)
        have n12_ := Aside0.mk (Kd.R_lower (Kd.R_new' (Kd.R_new' (Kd.R_new' (Kd.R_new' (Kd.R_new' (Kd.R_new' (Kd.R_new' (Kd.R_newM (M := fun k_ => (w.heap.size ≤ k_)) ho0 (below_size (by repeat (first | (with_reducible first | exact HB.out | apply below_alloc | apply pw_below_drewN | apply below_drew1) | exact HB.out))) (fun k_ h_ => h_)) (Kd.R_lt (by (with_reducible repeat (first | apply Kd.R_alloc | apply Kd.R_drewN | apply Kd.R_drew)); exact HO184.out))) (Kd.R_lt (by (with_reducible repeat (first | apply Kd.R_alloc | apply Kd.R_drewN | apply Kd.R_drew)); exact HO187.out))) (Kd.R_lt (by (with_reducible repeat (first | apply Kd.R_alloc | apply Kd.R_drewN | apply Kd.R_drew)); exact HO193.out))) (Kd.R_lt (by (with_reducible repeat (first | apply Kd.R_alloc | apply Kd.R_drewN | apply Kd.R_drew)); exact HO196.out))) (Kd.R_lt (by (with_reducible repeat (first | apply Kd.R_alloc | apply Kd.R_drewN | apply Kd.R_drew)); exact HO202.out))) (Kd.R_lt (by (with_reducible repeat (first | apply Kd.R_alloc | apply Kd.R_drewN | apply Kd.R_drew)); exact HO205.out))) (Kd.R_lt (by (with_reducible repeat (first | apply Kd.R_alloc | apply Kd.R_drewN | apply Kd.R_drew)); exact HO211.out))) (below_size (by repeat (first | (with_reducible first | exact HB.out | apply below_alloc | apply pw_below_drewN | apply below_drew1) | exact HB.out))))
        have n13_ := Aside0.mk (below_step (by repeat (first | (with_reducible first | exact HB.out | apply below_alloc | apply pw_below_drewN | apply below_drew1) | exact HB.out)) hb)
        clear HO0
        clear HO1
        clear HO184
        clear HO187
        clear HO190
        clear HO193
        clear HO196
        clear HO199
        clear HO202
        clear HO205
        clear HO208
        clear HO211
        clear HB
        have HO0 := n0_
        have HO1 := n1_
        have HO184 := n2_
        have HO187 := n3_
        have HO190 := n4_
        have HO193 := n5_
        have HO196 := n6_
        have HO199 := n7_
        have HO202 := n8_
        have HO205 := n9_
        have HO208 := n10_
        have HO211 := n11_
        have HO214 := n12_
        have HB := n13_
        clear n0_ n1_ n2_ n3_ n4_ n5_ n6_ n7_ n8_ n9_ n10_ n11_ n12_ n13_
        (try clear hb)
        (try clear hb2)
        (try clear hk)
        (try clear hi)
        (try clear ho0)
        obtain ⟨Ao50, co50, eo50⟩ := Kd.R_slice HO211.out
        (first | subst eo50 | (injection eo50 with f1_ f2_ f3_; have f4_ := f1_.symm; have f5_ := f3_.symm; clear f1_ f2_ f3_; subst f4_; subst f5_))
        obtain ⟨Ao51, co51, eo51⟩ := Kd.R_slice HO214.out
        (first | subst eo51 | (injection eo51 with f1_ f2_ f3_; have f4_ := f1_.symm; have f5_ := f3_.symm; clear f1_ f2_ f3_; subst f4_; subst f5_))
        refine hK.out _ _ (((HB.out).cell HBl_.out).trans HBc_.out) (fun hHeld => ?_)
        clear hK K
        refine norm_ (a' := ?_) ?_ ?_
        rotate_left
        · show Act.put _ (some 62) _ = _
          simp only [Act.put, List.setIfInBounds_toArray, List.set_cons_zero, List.set_cons_succ, i64_w, i32_w]
          rfl
        refine one_ (i := 16) (N := some 63) #[true, true, true, true, true, true, true, true, true, true, true, true, true, true, true, true, true, false, false] rfl rfl (one_of HT_.out (by kernel_rfl)) (by decide) (fun K hK => ?_)
        refine goes_ Try.func15 (by kernel_rfl) rfl #[.slice Ao50 t209.length co50, .slice Ao51 t212.length co51] (by rfl) rfl rfl (by (try simp only [List.map_toArray, List.map_cons, List.map_nil]); first | done | rfl | (simp only [List.length_drop, List.length_take]; rfl)) ?_
        with_reducible refine (nat_Add.calls k (fun k_ => some k_ = (.slice Ao50 t209.length co50 : Value).ownBlock) _ _ t209 (fun k_ => some k_ = (.slice Ao51 t212.length co51 : Value).ownBlock) _ _ t212 t215 _ ?side1 ?side2 A19.out).mono ?_
        (case side1 => exact Kd.R_V (Kd.R_tight rfl (HO211.out)))
        (case side2 => exact Kd.R_V (Kd.R_tight rfl (HO214.out)))
        rintro e w52 ⟨v216, rfl, ho0, hb⟩
        refine ⟨_, rfl, ?_⟩
        have n0_ := Aside0.mk (Kd.V_below (by (with_reducible repeat (first | apply Kd.V_alloc | apply Kd.V_drewN | apply Kd.V_drew)); exact HO0.out) hb)
        have n1_ := Aside0.mk (Kd.V_below (by (with_reducible repeat (first | apply Kd.V_alloc | apply Kd.V_drewN | apply Kd.V_drew)); exact HO1.out) hb)
        have n2_ := Aside0.mk (Kd.R_below (by (with_reducible repeat (first | apply Kd.R_alloc | apply Kd.R_drewN | apply Kd.R_drew)); exact HO184.out) hb)
        have n3_ := Aside0.mk (Kd.R_below (by (with_reducible repeat (first | apply Kd.R_alloc | apply Kd.R_drewN | apply Kd.R_drew)); exact HO187.out) hb)
        have n4_ := Aside0.mk (Kd.V_below (by (with_reducible repeat (first | apply Kd.V_alloc | apply Kd.V_drewN | apply Kd.V_drew)); exact HO190.out) hb)
        have n5_ := Aside0.mk (Kd.R_below (by (with_reducible repeat (first | apply Kd.R_alloc | apply Kd.R_drewN | apply Kd.R_drew)); exact HO193.out) hb)
        have n6_ := Aside0.mk (Kd.R_below (by (with_reducible repeat (first | apply Kd.R_alloc | apply Kd.R_drewN | apply Kd.R_drew)); exact HO196.out) hb)
        have n7_ := Aside0.mk (Kd.V_below (by (with_reducible repeat (first | apply Kd.V_alloc | apply Kd.V_drewN | apply Kd.V_drew)); exact HO199.out) hb)
        have n8_ := Aside0.mk (Kd.R_below (by (with_reducible repeat (first | apply Kd.R_alloc | apply Kd.R_drewN | apply Kd.R_drew)); exact HO202.out) hb)
        have n9_ := Aside0.mk (Kd.R_below (by (with_reducible repeat (first | apply Kd.R_alloc | apply Kd.R_drewN | apply Kd.R_drew)); exact HO205.out) hb)
        have n10_ := Aside0.mk (Kd.V_below (by (with_reducible repeat (first | apply Kd.V_alloc | apply Kd.V_drewN | apply Kd.V_drew)); exact HO208.out) hb)
        have n11_ := Aside0.mk (Kd.R_below (by (with_reducible repeat (first | apply Kd.R_alloc | apply Kd.R_drewN | apply Kd.R_drew)); exact HO211.out) hb)
        have n12_ := Aside0.mk (Kd.R_below (by (with_reducible repeat (first | apply Kd.R_alloc | apply Kd.R_drewN | apply Kd.R_drew)); exact HO214.out) hb)
        have n13_ := Aside0.mk (Kd.V_lower (Kd.V_mono (ok' := fun k_ => ((P0_ k_ ∨ P1_ k_) ∨ w.heap.size ≤ k_) ∧ some k_ ≠ (.slice Ao33 t182.length co33 : Value).ownBlock ∧ some k_ ≠ (.slice Ao34 t185.length co34 : Value).ownBlock ∧ some k_ ≠ (.slice Ao39 t191.length co39 : Value).ownBlock ∧ some k_ ≠ (.slice Ao40 t194.length co40 : Value).ownBlock ∧ some k_ ≠ (.slice Ao45 t200.length co45 : Value).ownBlock ∧ some k_ ≠ (.slice Ao46 t203.length co46 : Value).ownBlock) ho0 (fun k_ hk_ => ⟨Or.elim hk_ (fun hs_ => Or.elim hs_ (fun hs_ => (.inr (((HO211.out).1 k_ hs_.symm).1.1.1.1.1.1.1.1))) (fun hs_ => (.inr (((HO214.out).1 k_ hs_.symm).1.1.1.1.1.1.1.1)))) (fun hn_ => (.inr (Nat.le_trans (below_size (by repeat (first | (with_reducible first | exact HB.out | apply below_alloc | apply pw_below_drewN | apply below_drew1) | exact HB.out))) hn_))), Or.elim hk_ (fun hs_ => Or.elim hs_ (fun hs_ => ((HO211.out).1 k_ hs_.symm).1.1.1.1.1.1.2) (fun hs_ => ((HO214.out).1 k_ hs_.symm).1.1.1.1.1.1.2)) (fun hn_ => (Kd.fresh' (Kd.R_lt (by (with_reducible repeat (first | apply Kd.R_alloc | apply Kd.R_drewN | apply Kd.R_drew)); exact HO184.out)) k_ hn_)), Or.elim hk_ (fun hs_ => Or.elim hs_ (fun hs_ => ((HO211.out).1 k_ hs_.symm).1.1.1.1.1.2) (fun hs_ => ((HO214.out).1 k_ hs_.symm).1.1.1.1.1.2)) (fun hn_ => (Kd.fresh' (Kd.R_lt (by (with_reducible repeat (first | apply Kd.R_alloc | apply Kd.R_drewN | apply Kd.R_drew)); exact HO187.out)) k_ hn_)), Or.elim hk_ (fun hs_ => Or.elim hs_ (fun hs_ => ((HO211.out).1 k_ hs_.symm).1.1.1.1.2) (fun hs_ => ((HO214.out).1 k_ hs_.symm).1.1.1.1.2)) (fun hn_ => (Kd.fresh' (Kd.R_lt (by (with_reducible repeat (first | apply Kd.R_alloc | apply Kd.R_drewN | apply Kd.R_drew)); exact HO193.out)) k_ hn_)), Or.elim hk_ (fun hs_ => Or.elim hs_ (fun hs_ => ((HO211.out).1 k_ hs_.symm).1.1.1.2) (fun hs_ => ((HO214.out).1 k_ hs_.symm).1.1.1.2)) (fun hn_ => (Kd.fresh' (Kd.R_lt (by (with_reducible repeat (first | apply Kd.R_alloc | apply Kd.R_drewN | apply Kd.R_drew)); exact HO196.out)) k_ hn_)), Or.elim hk_ (fun hs_ => Or.elim hs_ (fun hs_ => ((HO211.out).1 k_ hs_.symm).1.1.2) (fun hs_ => ((HO214.out).1 k_ hs_.symm).1.1.2)) (fun hn_ => (Kd.fresh' (Kd.R_lt (by (with_reducible repeat (first | apply Kd.R_alloc | apply Kd.R_drewN | apply Kd.R_drew)); exact HO202.out)) k_ hn_)), Or.elim hk_ (fun hs_ => Or.elim hs_ (fun hs_ => ((HO211.out).1 k_ hs_.symm).1.2) (fun hs_ => ((HO214.out).1 k_ hs_.symm).1.2)) (fun hn_ => (Kd.fresh' (Kd.R_lt (by (with_reducible repeat (first | apply Kd.R_alloc | apply Kd.R_drewN | apply Kd.R_drew)); exact HO205.out)) k_ hn_))⟩)) (below_size (by repeat (first | (with_reducible first | exact HB.out | apply below_alloc | apply pw_below_drewN | apply below_drew1) | exact HB.out))))
        have n14_ := Aside0.mk (below_step (by repeat (first | (with_reducible first | exact HB.out | apply below_alloc | apply pw_below_drewN | apply below_drew1) | exact HB.out)) hb)
        clear HO0
        clear HO1
        clear HO184
        clear HO187
        clear HO190
        clear HO193
        clear HO196
        clear HO199
        clear HO202
        clear HO205
        clear HO208
        clear HO211
        clear HO214
        clear HB
        have HO0 := n0_
        have HO1 := n1_
        have HO184 := n2_
        have HO187 := n3_
        have HO190 := n4_
        have HO193 := n5_
        have HO196 := n6_
        have HO199 := n7_
        have HO202 := n8_
        have HO205 := n9_
        have HO208 := n10_
        have HO211 := n11_
        have HO214 := n12_
        have HO217 := n13_
        have HB := n14_
        clear n0_ n1_ n2_ n3_ n4_ n5_ n6_ n7_ n8_ n9_ n10_ n11_ n12_ n13_ n14_
        (try clear hb)
        (try clear hb2)
        (try clear hk)
        (try clear hi)
        (try clear ho0)
        obtain ⟨Ao53, co53, eo53⟩ := Kd.V_slice HO208.out
        (first | subst eo53 | (injection eo53 with f1_ f2_ f3_; have f4_ := f1_.symm; have f5_ := f3_.symm; clear f1_ f2_ f3_; subst f4_; subst f5_))
        obtain ⟨Ao54, co54, eo54⟩ := Kd.V_slice HO217.out
        (first | subst eo54 | (injection eo54 with f1_ f2_ f3_; have f4_ := f1_.symm; have f5_ := f3_.symm; clear f1_ f2_ f3_; subst f4_; subst f5_))
        refine hK.out _ _ (((HB.out).cell HBl_.out).trans HBc_.out) (fun hHeld => ?_)
        clear hK K
        refine norm_ (a' := ?_) ?_ ?_
        rotate_left
        · show Act.put _ (some 63) _ = _
          simp only [Act.put, List.setIfInBounds_toArray, List.set_cons_zero, List.set_cons_succ, i64_w, i32_w]
          rfl
        refine one_ (i := 17) (N := some 64) #[true, true, true, true, true, true, true, true, true, true, true, true, true, true, true, true, true, true, false] rfl rfl (one_of HT_.out (by kernel_rfl)) (by decide) (fun K hK => ?_)
        refine goesV_ Try.func19 (by kernel_rfl) rfl #[.slice Ao53 t206.length co53, .slice Ao54 t215.length co54] #[.pointer (some ⟨B_, 0, none⟩)] #[.slice Ao53 t206.length co53, .slice Ao54 t215.length co54, .pointer (some ⟨B_, 0, none⟩)] rfl (by rfl) rfl rfl (by rfl) (by (try simp only [List.map_toArray, List.map_cons, List.map_nil]); first | done | rfl | (simp only [List.length_drop, List.length_take]; rfl)) ?_
        with_reducible refine (ih k (by omega) (fun k_ => (((((P0_ k_ ∨ P1_ k_) ∨ w.heap.size ≤ k_) ∧ (some k_ ≠ (.slice Ao33 t182.length co33 : Value).ownBlock ∧ (some k_ ≠ (.slice Ao34 t185.length co34 : Value).ownBlock ∧ (some k_ ≠ (.slice Ao39 t191.length co39 : Value).ownBlock ∧ some k_ ≠ (.slice Ao40 t194.length co40 : Value).ownBlock)))) ∧ some k_ ≠ (.slice Ao50 t209.length co50 : Value).ownBlock) ∧ some k_ ≠ (.slice Ao51 t212.length co51 : Value).ownBlock)) _ _ t206 (fun k_ => (((P0_ k_ ∨ P1_ k_) ∨ w.heap.size ≤ k_) ∧ (some k_ ≠ (.slice Ao33 t182.length co33 : Value).ownBlock ∧ (some k_ ≠ (.slice Ao34 t185.length co34 : Value).ownBlock ∧ (some k_ ≠ (.slice Ao39 t191.length co39 : Value).ownBlock ∧ (some k_ ≠ (.slice Ao40 t194.length co40 : Value).ownBlock ∧ (some k_ ≠ (.slice Ao45 t200.length co45 : Value).ownBlock ∧ some k_ ≠ (.slice Ao46 t203.length co46 : Value).ownBlock))))))) _ _ t215 t218 _ ?sideB ?side1 ?side2 A20.out).mono ?_
        (case sideB => exact hHeld)
        (case side1 => exact HO208.out)
        (case side2 => exact HO217.out)
        rintro e w55 ⟨v219, rfl, ho0, hb⟩
        refine ⟨_, rfl, ?_⟩
        have n0_ := Aside0.mk (Kd.V_below (by (with_reducible repeat (first | apply Kd.V_alloc | apply Kd.V_drewN | apply Kd.V_drew)); exact HO0.out) hb)
        have n1_ := Aside0.mk (Kd.V_below (by (with_reducible repeat (first | apply Kd.V_alloc | apply Kd.V_drewN | apply Kd.V_drew)); exact HO1.out) hb)
        have n2_ := Aside0.mk (Kd.R_below (by (with_reducible repeat (first | apply Kd.R_alloc | apply Kd.R_drewN | apply Kd.R_drew)); exact HO184.out) hb)
        have n3_ := Aside0.mk (Kd.R_below (by (with_reducible repeat (first | apply Kd.R_alloc | apply Kd.R_drewN | apply Kd.R_drew)); exact HO187.out) hb)
        have n4_ := Aside0.mk (Kd.V_below (by (with_reducible repeat (first | apply Kd.V_alloc | apply Kd.V_drewN | apply Kd.V_drew)); exact HO190.out) hb)
        have n5_ := Aside0.mk (Kd.R_below (by (with_reducible repeat (first | apply Kd.R_alloc | apply Kd.R_drewN | apply Kd.R_drew)); exact HO193.out) hb)
        have n6_ := Aside0.mk (Kd.R_below (by (with_reducible repeat (first | apply Kd.R_alloc | apply Kd.R_drewN | apply Kd.R_drew)); exact HO196.out) hb)
        have n7_ := Aside0.mk (Kd.V_below (by (with_reducible repeat (first | apply Kd.V_alloc | apply Kd.V_drewN | apply Kd.V_drew)); exact HO199.out) hb)
        have n8_ := Aside0.mk (Kd.R_below (by (with_reducible repeat (first | apply Kd.R_alloc | apply Kd.R_drewN | apply Kd.R_drew)); exact HO202.out) hb)
        have n9_ := Aside0.mk (Kd.R_below (by (with_reducible repeat (first | apply Kd.R_alloc | apply Kd.R_drewN | apply Kd.R_drew)); exact HO205.out) hb)
        have n10_ := Aside0.mk (Kd.V_below (by (with_reducible repeat (first | apply Kd.V_alloc | apply Kd.V_drewN | apply Kd.V_drew)); exact HO208.out) hb)
        have n11_ := Aside0.mk (Kd.R_below (by (with_reducible repeat (first | apply Kd.R_alloc | apply Kd.R_drewN | apply Kd.R_drew)); exact HO211.out) hb)
        have n12_ := Aside0.mk (Kd.R_below (by (with_reducible repeat (first | apply Kd.R_alloc | apply Kd.R_drewN | apply Kd.R_drew)); exact HO214.out) hb)
        have n13_ := Aside0.mk (Kd.V_below (by (with_reducible repeat (first | apply Kd.V_alloc | apply Kd.V_drewN | apply Kd.V_drew)); exact HO217.out) hb)
        have n14_ := Aside0.mk (Kd.V_lower (Kd.V_mono (ok' := fun k_ => ((P0_ k_ ∨ P1_ k_) ∨ w.heap.size ≤ k_) ∧ some k_ ≠ (.slice Ao33 t182.length co33 : Value).ownBlock ∧ some k_ ≠ (.slice Ao34 t185.length co34 : Value).ownBlock ∧ some k_ ≠ (.slice Ao39 t191.length co39 : Value).ownBlock ∧ some k_ ≠ (.slice Ao40 t194.length co40 : Value).ownBlock) ho0 (fun k_ hk_ => ⟨Or.elim hk_ (fun hs_ => Or.elim hs_ (fun hs_ => hs_.1.1.1) (fun hs_ => hs_.1)) (fun hn_ => (.inr (Nat.le_trans (below_size (by repeat (first | (with_reducible first | exact HB.out | apply below_alloc | apply pw_below_drewN | apply below_drew1) | exact HB.out))) hn_))), Or.elim hk_ (fun hs_ => Or.elim hs_ (fun hs_ => hs_.1.1.2.1) (fun hs_ => hs_.2.1)) (fun hn_ => (Kd.fresh' (Kd.R_lt (by (with_reducible repeat (first | apply Kd.R_alloc | apply Kd.R_drewN | apply Kd.R_drew)); exact HO184.out)) k_ hn_)), Or.elim hk_ (fun hs_ => Or.elim hs_ (fun hs_ => hs_.1.1.2.2.1) (fun hs_ => hs_.2.2.1)) (fun hn_ => (Kd.fresh' (Kd.R_lt (by (with_reducible repeat (first | apply Kd.R_alloc | apply Kd.R_drewN | apply Kd.R_drew)); exact HO187.out)) k_ hn_)), Or.elim hk_ (fun hs_ => Or.elim hs_ (fun hs_ => hs_.1.1.2.2.2.1) (fun hs_ => hs_.2.2.2.1)) (fun hn_ => (Kd.fresh' (Kd.R_lt (by (with_reducible repeat (first | apply Kd.R_alloc | apply Kd.R_drewN | apply Kd.R_drew)); exact HO193.out)) k_ hn_)), Or.elim hk_ (fun hs_ => Or.elim hs_ (fun hs_ => hs_.1.1.2.2.2.2) (fun hs_ => hs_.2.2.2.2.1)) (fun hn_ => (Kd.fresh' (Kd.R_lt (by (with_reducible repeat (first | apply Kd.R_alloc | apply Kd.R_drewN | apply Kd.R_drew)); exact HO196.out)) k_ hn_))⟩)) (below_size (by repeat (first | (with_reducible first | exact HB.out | apply below_alloc | apply pw_below_drewN | apply below_drew1) | exact HB.out))))
        have n15_ := Aside0.mk (below_step (by repeat (first | (with_reducible first | exact HB.out | apply below_alloc | apply pw_below_drewN | apply below_drew1) | exact HB.out)) hb)
        clear HO0
        clear HO1
        clear HO184
        clear HO187
        clear HO190
        clear HO193
        clear HO196
        clear HO199
        clear HO202
        clear HO205
        clear HO208
        clear HO211
        clear HO214
        clear HO217
        clear HB
        have HO0 := n0_
        have HO1 := n1_
        have HO184 := n2_
        have HO187 := n3_
        have HO190 := n4_
        have HO193 := n5_
        have HO196 := n6_
        have HO199 := n7_
        have HO202 := n8_
        have HO205 := n9_
        have HO208 := n10_
        have HO211 := n11_
        have HO214 := n12_
        have HO217 := n13_
        have HO220 := n14_
        have HB := n15_
        clear n0_ n1_ n2_ n3_ n4_ n5_ n6_ n7_ n8_ n9_ n10_ n11_ n12_ n13_ n14_ n15_
        (try clear hb)
        (try clear hb2)
        (try clear hk)
        (try clear hi)
        (try clear ho0)
        refine hK.out _ _ (((HB.out).cell HBl_.out).trans HBc_.out) (fun hHeld => ?_)
        clear hK K
        refine norm_ (a' := ?_) ?_ ?_
        rotate_left
        · show Act.put _ (some 64) _ = _
          simp only [Act.put, List.setIfInBounds_toArray, List.set_cons_zero, List.set_cons_succ, i64_w, i32_w]
          rfl
        refine pure_ (i := 18) (N := some 10) (v := ?_) (a' := ?_) #[true, true, true, true, true, true, true, true, true, true, true, true, true, true, true, true, true, true, true] rfl rfl (any_of HT_.out (by kernel_rfl)) (fun _ _ _ h => h) (Or.inl ⟨by rfl, ?_⟩) ?_ ?_
        rotate_left
        · intro w'
          go_simp
          with_reducible rfl
        rotate_left
        · simp only [Act.put, List.setIfInBounds_toArray, List.set_cons_zero, List.set_cons_succ, i64_w, i32_w]
          rfl
        refine done_ (done_of HT_.out (by kernel_rfl)) ?_
        obtain ⟨Ao56, co56, eo56⟩ := Kd.V_slice HO220.out
        subst eo56
        obtain ⟨Ao57, co57, eo57⟩ := Kd.V_slice HO190.out
        subst eo57
        try go_wp2_with (first | ((with_reducible refine gate_callee (f := 17) rfl ?_); refine goesL_ (some 68) rfl rfl Try.func17 (by kernel_rfl) rfl #[.slice Ao56 t218.length co56, .slice Ao57 t188.length co57] rfl (by (try simp only [List.map_toArray, List.map_cons, List.map_nil]); first | done | rfl | (simp only [List.length_drop, List.length_take]; rfl)) ?_; (with_reducible refine (nat_Sub.calls k (fun k_ => (((P0_ k_ ∨ P1_ k_) ∨ w.heap.size ≤ k_) ∧ (some k_ ≠ (.slice Ao33 t182.length co33 : Value).ownBlock ∧ (some k_ ≠ (.slice Ao34 t185.length co34 : Value).ownBlock ∧ (some k_ ≠ (.slice Ao39 t191.length co39 : Value).ownBlock ∧ some k_ ≠ (.slice Ao40 t194.length co40 : Value).ownBlock))))) _ _ t218 (fun k_ => ((((((((P0_ k_ ∨ P1_ k_) ∨ w.heap.size ≤ k_) ∧ some k_ ≠ (.slice Ao39 t191.length co39 : Value).ownBlock) ∧ some k_ ≠ (.slice Ao40 t194.length co40 : Value).ownBlock) ∧ some k_ ≠ (.slice Ao45 t200.length co45 : Value).ownBlock) ∧ some k_ ≠ (.slice Ao46 t203.length co46 : Value).ownBlock) ∧ some k_ ≠ (.slice Ao50 t209.length co50 : Value).ownBlock) ∧ some k_ ≠ (.slice Ao51 t212.length co51 : Value).ownBlock)) _ _ t188 t221 t224 _ ?side1 ?side2 A21.out).mono ?_); (case side1 => exact HO220.out); (case side2 => exact HO190.out); rintro e w58 ⟨v222, rfl, ho0, hb⟩; refine ⟨_, rfl, ?_⟩; have n0_ := Aside0.mk (Kd.V_below (by (with_reducible repeat (first | apply Kd.V_alloc | apply Kd.V_drewN | apply Kd.V_drew)); exact HO0.out) hb); have n1_ := Aside0.mk (Kd.V_below (by (with_reducible repeat (first | apply Kd.V_alloc | apply Kd.V_drewN | apply Kd.V_drew)); exact HO1.out) hb); have n2_ := Aside0.mk (Kd.R_below (by (with_reducible repeat (first | apply Kd.R_alloc | apply Kd.R_drewN | apply Kd.R_drew)); exact HO184.out) hb); have n3_ := Aside0.mk (Kd.R_below (by (with_reducible repeat (first | apply Kd.R_alloc | apply Kd.R_drewN | apply Kd.R_drew)); exact HO187.out) hb); have n4_ := Aside0.mk (Kd.V_below (by (with_reducible repeat (first | apply Kd.V_alloc | apply Kd.V_drewN | apply Kd.V_drew)); exact HO190.out) hb); have n5_ := Aside0.mk (Kd.R_below (by (with_reducible repeat (first | apply Kd.R_alloc | apply Kd.R_drewN | apply Kd.R_drew)); exact HO193.out) hb); have n6_ := Aside0.mk (Kd.R_below (by (with_reducible repeat (first | apply Kd.R_alloc | apply Kd.R_drewN | apply Kd.R_drew)); exact HO196.out) hb); have n7_ := Aside0.mk (Kd.V_below (by (with_reducible repeat (first | apply Kd.V_alloc | apply Kd.V_drewN | apply Kd.V_drew)); exact HO199.out) hb); have n8_ := Aside0.mk (Kd.R_below (by (with_reducible repeat (first | apply Kd.R_alloc | apply Kd.R_drewN | apply Kd.R_drew)); exact HO202.out) hb); have n9_ := Aside0.mk (Kd.R_below (by (with_reducible repeat (first | apply Kd.R_alloc | apply Kd.R_drewN | apply Kd.R_drew)); exact HO205.out) hb); have n10_ := Aside0.mk (Kd.V_below (by (with_reducible repeat (first | apply Kd.V_alloc | apply Kd.V_drewN | apply Kd.V_drew)); exact HO208.out) hb); have n11_ := Aside0.mk (Kd.R_below (by (with_reducible repeat (first | apply Kd.R_alloc | apply Kd.R_drewN | apply Kd.R_drew)); exact HO211.out) hb); have n12_ := Aside0.mk (Kd.R_below (by (with_reducible repeat (first | apply Kd.R_alloc | apply Kd.R_drewN | apply Kd.R_drew)); exact HO214.out) hb); have n13_ := Aside0.mk (Kd.V_below (by (with_reducible repeat (first | apply Kd.V_alloc | apply Kd.V_drewN | apply Kd.V_drew)); exact HO217.out) hb); have n14_ := Aside0.mk (Kd.V_below (by (with_reducible repeat (first | apply Kd.V_alloc | apply Kd.V_drewN | apply Kd.V_drew)); exact HO220.out) hb); have n15_ := Aside0.mk (Kd.V_lower (Kd.V_mono (ok' := fun k_ => ((P0_ k_ ∨ P1_ k_) ∨ w.heap.size ≤ k_) ∧ some k_ ≠ (.slice Ao39 t191.length co39 : Value).ownBlock ∧ some k_ ≠ (.slice Ao40 t194.length co40 : Value).ownBlock) ho0 (fun k_ hk_ => ⟨Or.elim hk_ (fun hs_ => Or.elim hs_ (fun hs_ => hs_.1) (fun hs_ => hs_.1.1.1.1.1.1)) (fun hn_ => (.inr (Nat.le_trans (below_size (by repeat (first | (with_reducible first | exact HB.out | apply below_alloc | apply pw_below_drewN | apply below_drew1) | exact HB.out))) hn_))), Or.elim hk_ (fun hs_ => Or.elim hs_ (fun hs_ => hs_.2.2.2.1) (fun hs_ => hs_.1.1.1.1.1.2)) (fun hn_ => (Kd.fresh' (Kd.R_lt (by (with_reducible repeat (first | apply Kd.R_alloc | apply Kd.R_drewN | apply Kd.R_drew)); exact HO193.out)) k_ hn_)), Or.elim hk_ (fun hs_ => Or.elim hs_ (fun hs_ => hs_.2.2.2.2) (fun hs_ => hs_.1.1.1.1.2)) (fun hn_ => (Kd.fresh' (Kd.R_lt (by (with_reducible repeat (first | apply Kd.R_alloc | apply Kd.R_drewN | apply Kd.R_drew)); exact HO196.out)) k_ hn_))⟩)) (below_size (by repeat (first | (with_reducible first | exact HB.out | apply below_alloc | apply pw_below_drewN | apply below_drew1) | exact HB.out)))); have n16_ := Aside0.mk (below_step (by repeat (first | (with_reducible first | exact HB.out | apply below_alloc | apply pw_below_drewN | apply below_drew1) | exact HB.out)) hb); clear HO0; clear HO1; clear HO184; clear HO187; clear HO190; clear HO193; clear HO196; clear HO199; clear HO202; clear HO205; clear HO208; clear HO211; clear HO214; clear HO217; clear HO220; clear HB; have HO0 := n0_; have HO1 := n1_; have HO184 := n2_; have HO187 := n3_; have HO190 := n4_; have HO193 := n5_; have HO196 := n6_; have HO199 := n7_; have HO202 := n8_; have HO205 := n9_; have HO208 := n10_; have HO211 := n11_; have HO214 := n12_; have HO217 := n13_; have HO220 := n14_; have HO223 := n15_; have HB := n16_; clear n0_ n1_ n2_ n3_ n4_ n5_ n6_ n7_ n8_ n9_ n10_ n11_ n12_ n13_ n14_ n15_ n16_; (try clear hb); (try clear hb2); (try clear hk); (try clear hi); (try clear ho0); obtain ⟨Ao59, co59, eo59⟩ := Kd.V_slice HO223.out; subst eo59; obtain ⟨Ao60, co60, eo60⟩ := Kd.V_slice HO199.out; subst eo60) | ((with_reducible refine gate_callee (f := 17) rfl ?_); refine goesL_ (some 74) rfl rfl Try.func17 (by kernel_rfl) rfl #[.slice Ao59 t221.length co59, .slice Ao60 t197.length co60] rfl (by (try simp only [List.map_toArray, List.map_cons, List.map_nil]); first | done | rfl | (simp only [List.length_drop, List.length_take]; rfl)) ?_; (with_reducible refine (nat_Sub.calls k (fun k_ => (((P0_ k_ ∨ P1_ k_) ∨ w.heap.size ≤ k_) ∧ (some k_ ≠ (.slice Ao39 t191.length co39 : Value).ownBlock ∧ some k_ ≠ (.slice Ao40 t194.length co40 : Value).ownBlock))) _ _ t221 (fun k_ => (((((((P0_ k_ ∨ P1_ k_) ∨ w.heap.size ≤ k_) ∧ (some k_ ≠ (.slice Ao33 t182.length co33 : Value).ownBlock ∧ some k_ ≠ (.slice Ao34 t185.length co34 : Value).ownBlock)) ∧ some k_ ≠ (.slice Ao45 t200.length co45 : Value).ownBlock) ∧ some k_ ≠ (.slice Ao46 t203.length co46 : Value).ownBlock) ∧ some k_ ≠ (.slice Ao50 t209.length co50 : Value).ownBlock) ∧ some k_ ≠ (.slice Ao51 t212.length co51 : Value).ownBlock)) _ _ t197 t225 t228 _ ?side1 ?side2 A22.out).mono ?_); (case side1 => exact HO223.out); (case side2 => exact HO199.out); rintro e w61 ⟨v226, rfl, ho0, hb⟩; refine ⟨_, rfl, ?_⟩; have n0_ := Aside0.mk (Kd.V_below (by (with_reducible repeat (first | apply Kd.V_alloc | apply Kd.V_drewN | apply Kd.V_drew)); exact HO0.out) hb); have n1_ := Aside0.mk (Kd.V_below (by (with_reducible repeat (first | apply Kd.V_alloc | apply Kd.V_drewN | apply Kd.V_drew)); exact HO1.out) hb); have n2_ := Aside0.mk (Kd.R_below (by (with_reducible repeat (first | apply Kd.R_alloc | apply Kd.R_drewN | apply Kd.R_drew)); exact HO184.out) hb); have n3_ := Aside0.mk (Kd.R_below (by (with_reducible repeat (first | apply Kd.R_alloc | apply Kd.R_drewN | apply Kd.R_drew)); exact HO187.out) hb); have n4_ := Aside0.mk (Kd.V_below (by (with_reducible repeat (first | apply Kd.V_alloc | apply Kd.V_drewN | apply Kd.V_drew)); exact HO190.out) hb); have n5_ := Aside0.mk (Kd.R_below (by (with_reducible repeat (first | apply Kd.R_alloc | apply Kd.R_drewN | apply Kd.R_drew)); exact HO193.out) hb); have n6_ := Aside0.mk (Kd.R_below (by (with_reducible repeat (first | apply Kd.R_alloc | apply Kd.R_drewN | apply Kd.R_drew)); exact HO196.out) hb); have n7_ := Aside0.mk (Kd.V_below (by (with_reducible repeat (first | apply Kd.V_alloc | apply Kd.V_drewN | apply Kd.V_drew)); exact HO199.out) hb); have n8_ := Aside0.mk (Kd.R_below (by (with_reducible repeat (first | apply Kd.R_alloc | apply Kd.R_drewN | apply Kd.R_drew)); exact HO202.out) hb); have n9_ := Aside0.mk (Kd.R_below (by (with_reducible repeat (first | apply Kd.R_alloc | apply Kd.R_drewN | apply Kd.R_drew)); exact HO205.out) hb); have n10_ := Aside0.mk (Kd.V_below (by (with_reducible repeat (first | apply Kd.V_alloc | apply Kd.V_drewN | apply Kd.V_drew)); exact HO208.out) hb); have n11_ := Aside0.mk (Kd.R_below (by (with_reducible repeat (first | apply Kd.R_alloc | apply Kd.R_drewN | apply Kd.R_drew)); exact HO211.out) hb); have n12_ := Aside0.mk (Kd.R_below (by (with_reducible repeat (first | apply Kd.R_alloc | apply Kd.R_drewN | apply Kd.R_drew)); exact HO214.out) hb); have n13_ := Aside0.mk (Kd.V_below (by (with_reducible repeat (first | apply Kd.V_alloc | apply Kd.V_drewN | apply Kd.V_drew)); exact HO217.out) hb); have n14_ := Aside0.mk (Kd.V_below (by (with_reducible repeat (first | apply Kd.V_alloc | apply Kd.V_drewN | apply Kd.V_drew)); exact HO220.out) hb); have n15_ := Aside0.mk (Kd.V_below (by (with_reducible repeat (first | apply Kd.V_alloc | apply Kd.V_drewN | apply Kd.V_drew)); exact HO223.out) hb); have n16_ := Aside0.mk (Kd.V_lower (Kd.V_mono (ok' := fun k_ => ((P0_ k_ ∨ P1_ k_) ∨ w.heap.size ≤ k_)) ho0 (fun k_ hk_ => Or.elim hk_ (fun hs_ => Or.elim hs_ (fun hs_ => hs_.1) (fun hs_ => hs_.1.1.1.1.1)) (fun hn_ => (.inr (Nat.le_trans (below_size (by repeat (first | (with_reducible first | exact HB.out | apply below_alloc | apply pw_below_drewN | apply below_drew1) | exact HB.out))) hn_))))) (below_size (by repeat (first | (with_reducible first | exact HB.out | apply below_alloc | apply pw_below_drewN | apply below_drew1) | exact HB.out)))); have n17_ := Aside0.mk (below_step (by repeat (first | (with_reducible first | exact HB.out | apply below_alloc | apply pw_below_drewN | apply below_drew1) | exact HB.out)) hb); clear HO0; clear HO1; clear HO184; clear HO187; clear HO190; clear HO193; clear HO196; clear HO199; clear HO202; clear HO205; clear HO208; clear HO211; clear HO214; clear HO217; clear HO220; clear HO223; clear HB; have HO0 := n0_; have HO1 := n1_; have HO184 := n2_; have HO187 := n3_; have HO190 := n4_; have HO193 := n5_; have HO196 := n6_; have HO199 := n7_; have HO202 := n8_; have HO205 := n9_; have HO208 := n10_; have HO211 := n11_; have HO214 := n12_; have HO217 := n13_; have HO220 := n14_; have HO223 := n15_; have HO227 := n16_; have HB := n17_; clear n0_ n1_ n2_ n3_ n4_ n5_ n6_ n7_ n8_ n9_ n10_ n11_ n12_ n13_ n14_ n15_ n16_ n17_; (try clear hb); (try clear hb2); (try clear hk); (try clear hi); (try clear ho0)) | ((with_reducible refine gate_dst (N := 80) rfl ?_); refine Kd.R_make (Kd.int .u32) _ 31 rfl (N := 80) rfl 25 _ _ rfl ji23 rfl rfl Try.underlying25 (.int .u32 0) 4 info31 rfl (by decide) (by omega) 0 (ok := fun _ => True) (okp := fun _ => True) rfl (fun _ hk => hk) trivial (of_decide_eq_true (by first | (with_reducible assumption) | assumption)) (Nat.le_trans (Nat.mul_le_mul_right _ (of_decide_eq_true (by first | (with_reducible assumption) | assumption) : ji23.toNat ≤ 70368744177664)) (by omega)) (Below.refl _ _) (Nat.le_refl _) ?_; intro v230 w62 ho63 hb hg_ hnew_; clear hg_ hnew_; (first | rw [← Ny229.out] at ho63 | (simp only [Int.reduceToNat] at ho63; rw [← Ny229.out] at ho63)); have n0_ := Aside0.mk (Kd.V_elder' (by (with_reducible repeat (first | apply Kd.V_alloc | apply Kd.V_drewN | apply Kd.V_drew)); exact HO0.out) (Kd.R_base ho63) hb); have n1_ := Aside0.mk (Kd.V_elder' (by (with_reducible repeat (first | apply Kd.V_alloc | apply Kd.V_drewN | apply Kd.V_drew)); exact HO1.out) (Kd.R_base ho63) hb); have n2_ := Aside0.mk (Kd.R_elder' (by (with_reducible repeat (first | apply Kd.R_alloc | apply Kd.R_drewN | apply Kd.R_drew)); exact HO184.out) (Kd.R_base ho63) hb); have n3_ := Aside0.mk (Kd.R_elder' (by (with_reducible repeat (first | apply Kd.R_alloc | apply Kd.R_drewN | apply Kd.R_drew)); exact HO187.out) (Kd.R_base ho63) hb); have n4_ := Aside0.mk (Kd.V_elder' (by (with_reducible repeat (first | apply Kd.V_alloc | apply Kd.V_drewN | apply Kd.V_drew)); exact HO190.out) (Kd.R_base ho63) hb); have n5_ := Aside0.mk (Kd.R_elder' (by (with_reducible repeat (first | apply Kd.R_alloc | apply Kd.R_drewN | apply Kd.R_drew)); exact HO193.out) (Kd.R_base ho63) hb); have n6_ := Aside0.mk (Kd.R_elder' (by (with_reducible repeat (first | apply Kd.R_alloc | apply Kd.R_drewN | apply Kd.R_drew)); exact HO196.out) (Kd.R_base ho63) hb); have n7_ := Aside0.mk (Kd.V_elder' (by (with_reducible repeat (first | apply Kd.V_alloc | apply Kd.V_drewN | apply Kd.V_drew)); exact HO199.out) (Kd.R_base ho63) hb); have n8_ := Aside0.mk (Kd.R_elder' (by (with_reducible repeat (first | apply Kd.R_alloc | apply Kd.R_drewN | apply Kd.R_drew)); exact HO202.out) (Kd.R_base ho63) hb); have n9_ := Aside0.mk (Kd.R_elder' (by (with_reducible repeat (first | apply Kd.R_alloc | apply Kd.R_drewN | apply Kd.R_drew)); exact HO205.out) (Kd.R_base ho63) hb); have n10_ := Aside0.mk (Kd.V_elder' (by (with_reducible repeat (first | apply Kd.V_alloc | apply Kd.V_drewN | apply Kd.V_drew)); exact HO208.out) (Kd.R_base ho63) hb); have n11_ := Aside0.mk (Kd.R_elder' (by (with_reducible repeat (first | apply Kd.R_alloc | apply Kd.R_drewN | apply Kd.R_drew)); exact HO211.out) (Kd.R_base ho63) hb); have n12_ := Aside0.mk (Kd.R_elder' (by (with_reducible repeat (first | apply Kd.R_alloc | apply Kd.R_drewN | apply Kd.R_drew)); exact HO214.out) (Kd.R_base ho63) hb); have n13_ := Aside0.mk (Kd.V_elder' (by (with_reducible repeat (first | apply Kd.V_alloc | apply Kd.V_drewN | apply Kd.V_drew)); exact HO217.out) (Kd.R_base ho63) hb); have n14_ := Aside0.mk (Kd.V_elder' (by (with_reducible repeat (first | apply Kd.V_alloc | apply Kd.V_drewN | apply Kd.V_drew)); exact HO220.out) (Kd.R_base ho63) hb); have n15_ := Aside0.mk (Kd.V_elder' (by (with_reducible repeat (first | apply Kd.V_alloc | apply Kd.V_drewN | apply Kd.V_drew)); exact HO223.out) (Kd.R_base ho63) hb); have n16_ := Aside0.mk (Kd.V_elder' (by (with_reducible repeat (first | apply Kd.V_alloc | apply Kd.V_drewN | apply Kd.V_drew)); exact HO227.out) (Kd.R_base ho63) hb); have n17_ := Aside0.mk (Kd.R_lower (Kd.R_new' (Kd.R_new' (Kd.R_new' (Kd.R_new' (Kd.R_new' (Kd.R_new' (Kd.R_new' (Kd.R_new' (Kd.R_newM (M := fun k_ => (w.heap.size ≤ k_)) ho63 (below_size (by repeat (first | (with_reducible first | exact HB.out | apply below_alloc | apply pw_below_drewN | apply below_drew1) | exact HB.out))) (fun k_ h_ => h_)) (Kd.R_lt (by (with_reducible repeat (first | apply Kd.R_alloc | apply Kd.R_drewN | apply Kd.R_drew)); exact HO184.out))) (Kd.R_lt (by (with_reducible repeat (first | apply Kd.R_alloc | apply Kd.R_drewN | apply Kd.R_drew)); exact HO187.out))) (Kd.R_lt (by (with_reducible repeat (first | apply Kd.R_alloc | apply Kd.R_drewN | apply Kd.R_drew)); exact HO193.out))) (Kd.R_lt (by (with_reducible repeat (first | apply Kd.R_alloc | apply Kd.R_drewN | apply Kd.R_drew)); exact HO196.out))) (Kd.R_lt (by (with_reducible repeat (first | apply Kd.R_alloc | apply Kd.R_drewN | apply Kd.R_drew)); exact HO202.out))) (Kd.R_lt (by (with_reducible repeat (first | apply Kd.R_alloc | apply Kd.R_drewN | apply Kd.R_drew)); exact HO205.out))) (Kd.R_lt (by (with_reducible repeat (first | apply Kd.R_alloc | apply Kd.R_drewN | apply Kd.R_drew)); exact HO211.out))) (Kd.R_lt (by (with_reducible repeat (first | apply Kd.R_alloc | apply Kd.R_drewN | apply Kd.R_drew)); exact HO214.out))) (below_size (by repeat (first | (with_reducible first | exact HB.out | apply below_alloc | apply pw_below_drewN | apply below_drew1) | exact HB.out)))); have n18_ := Aside0.mk (below_step (by repeat (first | (with_reducible first | exact HB.out | apply below_alloc | apply pw_below_drewN | apply below_drew1) | exact HB.out)) hb); clear HO0; clear HO1; clear HO184; clear HO187; clear HO190; clear HO193; clear HO196; clear HO199; clear HO202; clear HO205; clear HO208; clear HO211; clear HO214; clear HO217; clear HO220; clear HO223; clear HO227; clear HB; have HO0 := n0_; have HO1 := n1_; have HO184 := n2_; have HO187 := n3_; have HO190 := n4_; have HO193 := n5_; have HO196 := n6_; have HO199 := n7_; have HO202 := n8_; have HO205 := n9_; have HO208 := n10_; have HO211 := n11_; have HO214 := n12_; have HO217 := n13_; have HO220 := n14_; have HO223 := n15_; have HO227 := n16_; have HO231 := n17_; have HB := n18_; clear n0_ n1_ n2_ n3_ n4_ n5_ n6_ n7_ n8_ n9_ n10_ n11_ n12_ n13_ n14_ n15_ n16_ n17_ n18_; clear hb ho63; obtain ⟨Ao64, co64, eo64⟩ := Kd.R_slice HO231.out; subst eo64) | ((with_reducible refine gate_callee (f := 22) rfl ?_); refine goesL_ (some 83) rfl rfl Try.func22 (by kernel_rfl) rfl #[.slice Ao64 y229.length co64, .slice Ao57 t188.length co57, .int .i64 0] rfl (by (try simp only [List.map_toArray, List.map_cons, List.map_nil]); first | done | rfl | (simp only [List.length_drop, List.length_take]; rfl)) ?_; (with_reducible refine (kara_add.calls k (fun k_ => some k_ = (.slice Ao64 y229.length co64 : Value).ownBlock) (.slice Ao64 y229.length co64) y229 _ _ t188 0 t232 w _ ?side1 ?side2 ?side3 ?side4 A26.out).mono ?_); (case side1 => repeat (first | (with_reducible first | exact HB.out | apply below_alloc | apply pw_below_drewN | apply below_drew1) | exact HB.out)); (case side2 => exact Kd.R_tight rfl HO231.out); (case side3 => exact Kd.C_kept_ownV (HO190.out) (fun k_ hk_ hs_ => (hk_.2) hs_)); (case side4 => exact (Kd.V_reads' HO190.out).2.1); rintro e w65 ⟨rfl, hy0, hb, hkp⟩; refine ⟨_, rfl, ?_⟩; have n0_ := Aside0.mk (Kd.V_mono (ok' := fun k_ => ((P0_ k_ ∨ P1_ k_) ∨ w.heap.size ≤ k_) ∧ some k_ ≠ (.slice Ao33 t182.length co33 : Value).ownBlock ∧ some k_ ≠ (.slice Ao34 t185.length co34 : Value).ownBlock ∧ some k_ ≠ (.slice Ao39 t191.length co39 : Value).ownBlock ∧ some k_ ≠ (.slice Ao40 t194.length co40 : Value).ownBlock ∧ some k_ ≠ (.slice Ao45 t200.length co45 : Value).ownBlock ∧ some k_ ≠ (.slice Ao46 t203.length co46 : Value).ownBlock ∧ some k_ ≠ (.slice Ao50 t209.length co50 : Value).ownBlock ∧ some k_ ≠ (.slice Ao51 t212.length co51 : Value).ownBlock ∧ some k_ ≠ (.slice Ao64 y229.length co64 : Value).ownBlock) (Kd.V_keptB (HO0.out) hkp (fun k_ hk_ hs_ => (hk_.2) hs_)) (fun k_ hk_ => ⟨hk_.1.1.1.1.1.1.1.1.1.1, hk_.1.1.1.1.1.1.1.1.1.2, hk_.1.1.1.1.1.1.1.1.2, hk_.1.1.1.1.1.1.1.2, hk_.1.1.1.1.1.1.2, hk_.1.1.1.1.1.2, hk_.1.1.1.1.2, hk_.1.1.1.2, hk_.1.1.2, hk_.1.2⟩)); have n1_ := Aside0.mk (Kd.V_mono (ok' := fun k_ => ((P0_ k_ ∨ P1_ k_) ∨ w.heap.size ≤ k_) ∧ some k_ ≠ (.slice Ao33 t182.length co33 : Value).ownBlock ∧ some k_ ≠ (.slice Ao34 t185.length co34 : Value).ownBlock ∧ some k_ ≠ (.slice Ao39 t191.length co39 : Value).ownBlock ∧ some k_ ≠ (.slice Ao40 t194.length co40 : Value).ownBlock ∧ some k_ ≠ (.slice Ao45 t200.length co45 : Value).ownBlock ∧ some k_ ≠ (.slice Ao46 t203.length co46 : Value).ownBlock ∧ some k_ ≠ (.slice Ao50 t209.length co50 : Value).ownBlock ∧ some k_ ≠ (.slice Ao51 t212.length co51 : Value).ownBlock ∧ some k_ ≠ (.slice Ao64 y229.length co64 : Value).ownBlock) (Kd.V_keptB (HO1.out) hkp (fun k_ hk_ hs_ => (hk_.2) hs_)) (fun k_ hk_ => ⟨hk_.1.1.1.1.1.1.1.1.1.1, hk_.1.1.1.1.1.1.1.1.1.2, hk_.1.1.1.1.1.1.1.1.2, hk_.1.1.1.1.1.1.1.2, hk_.1.1.1.1.1.1.2, hk_.1.1.1.1.1.2, hk_.1.1.1.1.2, hk_.1.1.1.2, hk_.1.1.2, hk_.1.2⟩)); have n2_ := Aside0.mk (Kd.R_mono (ok' := fun k_ => (w.heap.size ≤ k_) ∧ some k_ ≠ (.slice Ao34 t185.length co34 : Value).ownBlock ∧ some k_ ≠ (.slice Ao39 t191.length co39 : Value).ownBlock ∧ some k_ ≠ (.slice Ao40 t194.length co40 : Value).ownBlock ∧ some k_ ≠ (.slice Ao45 t200.length co45 : Value).ownBlock ∧ some k_ ≠ (.slice Ao46 t203.length co46 : Value).ownBlock ∧ some k_ ≠ (.slice Ao50 t209.length co50 : Value).ownBlock ∧ some k_ ≠ (.slice Ao51 t212.length co51 : Value).ownBlock ∧ some k_ ≠ (.slice Ao64 y229.length co64 : Value).ownBlock) (Kd.R_keptB (HO184.out) hkp (fun k_ hk_ hs_ => (hk_.2) hs_)) (fun k_ hk_ => ⟨hk_.1.1.1.1.1.1.1.1.1.1, hk_.1.1.1.1.1.1.1.1.2, hk_.1.1.1.1.1.1.1.2, hk_.1.1.1.1.1.1.2, hk_.1.1.1.1.1.2, hk_.1.1.1.1.2, hk_.1.1.1.2, hk_.1.1.2, hk_.1.2⟩)); have n3_ := Aside0.mk (Kd.R_mono (ok' := fun k_ => (w.heap.size ≤ k_) ∧ some k_ ≠ (.slice Ao33 t182.length co33 : Value).ownBlock ∧ some k_ ≠ (.slice Ao39 t191.length co39 : Value).ownBlock ∧ some k_ ≠ (.slice Ao40 t194.length co40 : Value).ownBlock ∧ some k_ ≠ (.slice Ao45 t200.length co45 : Value).ownBlock ∧ some k_ ≠ (.slice Ao46 t203.length co46 : Value).ownBlock ∧ some k_ ≠ (.slice Ao50 t209.length co50 : Value).ownBlock ∧ some k_ ≠ (.slice Ao51 t212.length co51 : Value).ownBlock ∧ some k_ ≠ (.slice Ao64 y229.length co64 : Value).ownBlock) (Kd.R_keptB (HO187.out) hkp (fun k_ hk_ hs_ => (hk_.2) hs_)) (fun k_ hk_ => ⟨hk_.1.1.1.1.1.1.1.1.1.1, hk_.1.1.1.1.1.1.1.1.2, hk_.1.1.1.1.1.1.1.2, hk_.1.1.1.1.1.1.2, hk_.1.1.1.1.1.2, hk_.1.1.1.1.2, hk_.1.1.1.2, hk_.1.1.2, hk_.1.2⟩)); have n4_ := Aside0.mk (Kd.V_mono (ok' := fun k_ => ((P0_ k_ ∨ P1_ k_) ∨ w.heap.size ≤ k_) ∧ some k_ ≠ (.slice Ao39 t191.length co39 : Value).ownBlock ∧ some k_ ≠ (.slice Ao40 t194.length co40 : Value).ownBlock ∧ some k_ ≠ (.slice Ao45 t200.length co45 : Value).ownBlock ∧ some k_ ≠ (.slice Ao46 t203.length co46 : Value).ownBlock ∧ some k_ ≠ (.slice Ao50 t209.length co50 : Value).ownBlock ∧ some k_ ≠ (.slice Ao51 t212.length co51 : Value).ownBlock ∧ some k_ ≠ (.slice Ao64 y229.length co64 : Value).ownBlock) (Kd.V_keptB (HO190.out) hkp (fun k_ hk_ hs_ => (hk_.2) hs_)) (fun k_ hk_ => ⟨hk_.1.1.1.1.1.1.1.1, hk_.1.1.1.1.1.1.1.2, hk_.1.1.1.1.1.1.2, hk_.1.1.1.1.1.2, hk_.1.1.1.1.2, hk_.1.1.1.2, hk_.1.1.2, hk_.1.2⟩)); have n5_ := Aside0.mk (Kd.R_mono (ok' := fun k_ => (w.heap.size ≤ k_) ∧ some k_ ≠ (.slice Ao33 t182.length co33 : Value).ownBlock ∧ some k_ ≠ (.slice Ao34 t185.length co34 : Value).ownBlock ∧ some k_ ≠ (.slice Ao40 t194.length co40 : Value).ownBlock ∧ some k_ ≠ (.slice Ao45 t200.length co45 : Value).ownBlock ∧ some k_ ≠ (.slice Ao46 t203.length co46 : Value).ownBlock ∧ some k_ ≠ (.slice Ao50 t209.length co50 : Value).ownBlock ∧ some k_ ≠ (.slice Ao51 t212.length co51 : Value).ownBlock ∧ some k_ ≠ (.slice Ao64 y229.length co64 : Value).ownBlock) (Kd.R_keptB (HO193.out) hkp (fun k_ hk_ hs_ => (hk_.2) hs_)) (fun k_ hk_ => ⟨hk_.1.1.1.1.1.1.1.1.1.1, hk_.1.1.1.1.1.1.1.1.2, hk_.1.1.1.1.1.1.1.2, hk_.1.1.1.1.1.1.2, hk_.1.1.1.1.1.2, hk_.1.1.1.1.2, hk_.1.1.1.2, hk_.1.1.2, hk_.1.2⟩)); have n6_ := Aside0.mk (Kd.R_mono (ok' := fun k_ => (w.heap.size ≤ k_) ∧ some k_ ≠ (.slice Ao33 t182.length co33 : Value).ownBlock ∧ some k_ ≠ (.slice Ao34 t185.length co34 : Value).ownBlock ∧ some k_ ≠ (.slice Ao39 t191.length co39 : Value).ownBlock ∧ some k_ ≠ (.slice Ao45 t200.length co45 : Value).ownBlock ∧ some k_ ≠ (.slice Ao46 t203.length co46 : Value).ownBlock ∧ some k_ ≠ (.slice Ao50 t209.length co50 : Value).ownBlock ∧ some k_ ≠ (.slice Ao51 t212.length co51 : Value).ownBlock ∧ some k_ ≠ (.slice Ao64 y229.length co64 : Value).ownBlock) (Kd.R_keptB (HO196.out) hkp (fun k_ hk_ hs_ => (hk_.2) hs_)) (fun k_ hk_ => ⟨hk_.1.1.1.1.1.1.1.1.1.1, hk_.1.1.1.1.1.1.1.1.2, hk_.1.1.1.1.1.1.1.2, hk_.1.1.1.1.1.1.2, hk_.1.1.1.1.1.2, hk_.1.1.1.1.2, hk_.1.1.1.2, hk_.1.1.2, hk_.1.2⟩)); have n7_ := Aside0.mk (Kd.V_mono (ok' := fun k_ => ((P0_ k_ ∨ P1_ k_) ∨ w.heap.size ≤ k_) ∧ some k_ ≠ (.slice Ao33 t182.length co33 : Value).ownBlock ∧ some k_ ≠ (.slice Ao34 t185.length co34 : Value).ownBlock ∧ some k_ ≠ (.slice Ao45 t200.length co45 : Value).ownBlock ∧ some k_ ≠ (.slice Ao46 t203.length co46 : Value).ownBlock ∧ some k_ ≠ (.slice Ao50 t209.length co50 : Value).ownBlock ∧ some k_ ≠ (.slice Ao51 t212.length co51 : Value).ownBlock ∧ some k_ ≠ (.slice Ao64 y229.length co64 : Value).ownBlock) (Kd.V_keptB (HO199.out) hkp (fun k_ hk_ hs_ => (hk_.2) hs_)) (fun k_ hk_ => ⟨hk_.1.1.1.1.1.1.1, hk_.1.1.1.1.1.1.2.1, hk_.1.1.1.1.1.1.2.2, hk_.1.1.1.1.1.2, hk_.1.1.1.1.2, hk_.1.1.1.2, hk_.1.1.2, hk_.1.2⟩)); have n8_ := Aside0.mk (Kd.R_mono (ok' := fun k_ => (w.heap.size ≤ k_) ∧ some k_ ≠ (.slice Ao33 t182.length co33 : Value).ownBlock ∧ some k_ ≠ (.slice Ao34 t185.length co34 : Value).ownBlock ∧ some k_ ≠ (.slice Ao39 t191.length co39 : Value).ownBlock ∧ some k_ ≠ (.slice Ao40 t194.length co40 : Value).ownBlock ∧ some k_ ≠ (.slice Ao46 t203.length co46 : Value).ownBlock ∧ some k_ ≠ (.slice Ao50 t209.length co50 : Value).ownBlock ∧ some k_ ≠ (.slice Ao51 t212.length co51 : Value).ownBlock ∧ some k_ ≠ (.slice Ao64 y229.length co64 : Value).ownBlock) (Kd.R_keptB (HO202.out) hkp (fun k_ hk_ hs_ => (hk_.2) hs_)) (fun k_ hk_ => ⟨hk_.1.1.1.1.1.1.1.1.1.1, hk_.1.1.1.1.1.1.1.1.2, hk_.1.1.1.1.1.1.1.2, hk_.1.1.1.1.1.1.2, hk_.1.1.1.1.1.2, hk_.1.1.1.1.2, hk_.1.1.1.2, hk_.1.1.2, hk_.1.2⟩)); have n9_ := Aside0.mk (Kd.R_mono (ok' := fun k_ => (w.heap.size ≤ k_) ∧ some k_ ≠ (.slice Ao33 t182.length co33 : Value).ownBlock ∧ some k_ ≠ (.slice Ao34 t185.length co34 : Value).ownBlock ∧ some k_ ≠ (.slice Ao39 t191.length co39 : Value).ownBlock ∧ some k_ ≠ (.slice Ao40 t194.length co40 : Value).ownBlock ∧ some k_ ≠ (.slice Ao45 t200.length co45 : Value).ownBlock ∧ some k_ ≠ (.slice Ao50 t209.length co50 : Value).ownBlock ∧ some k_ ≠ (.slice Ao51 t212.length co51 : Value).ownBlock ∧ some k_ ≠ (.slice Ao64 y229.length co64 : Value).ownBlock) (Kd.R_keptB (HO205.out) hkp (fun k_ hk_ hs_ => (hk_.2) hs_)) (fun k_ hk_ => ⟨hk_.1.1.1.1.1.1.1.1.1.1, hk_.1.1.1.1.1.1.1.1.2, hk_.1.1.1.1.1.1.1.2, hk_.1.1.1.1.1.1.2, hk_.1.1.1.1.1.2, hk_.1.1.1.1.2, hk_.1.1.1.2, hk_.1.1.2, hk_.1.2⟩)); have n10_ := Aside0.mk (Kd.V_mono (ok' := fun k_ => ((P0_ k_ ∨ P1_ k_) ∨ w.heap.size ≤ k_) ∧ some k_ ≠ (.slice Ao33 t182.length co33 : Value).ownBlock ∧ some k_ ≠ (.slice Ao34 t185.length co34 : Value).ownBlock ∧ some k_ ≠ (.slice Ao39 t191.length co39 : Value).ownBlock ∧ some k_ ≠ (.slice Ao40 t194.length co40 : Value).ownBlock ∧ some k_ ≠ (.slice Ao50 t209.length co50 : Value).ownBlock ∧ some k_ ≠ (.slice Ao51 t212.length co51 : Value).ownBlock ∧ some k_ ≠ (.slice Ao64 y229.length co64 : Value).ownBlock) (Kd.V_keptB (HO208.out) hkp (fun k_ hk_ hs_ => (hk_.2) hs_)) (fun k_ hk_ => ⟨hk_.1.1.1.1.1, hk_.1.1.1.1.2.1, hk_.1.1.1.1.2.2.1, hk_.1.1.1.1.2.2.2.1, hk_.1.1.1.1.2.2.2.2, hk_.1.1.1.2, hk_.1.1.2, hk_.1.2⟩)); have n11_ := Aside0.mk (Kd.R_mono (ok' := fun k_ => (w.heap.size ≤ k_) ∧ some k_ ≠ (.slice Ao33 t182.length co33 : Value).ownBlock ∧ some k_ ≠ (.slice Ao34 t185.length co34 : Value).ownBlock ∧ some k_ ≠ (.slice Ao39 t191.length co39 : Value).ownBlock ∧ some k_ ≠ (.slice Ao40 t194.length co40 : Value).ownBlock ∧ some k_ ≠ (.slice Ao45 t200.length co45 : Value).ownBlock ∧ some k_ ≠ (.slice Ao46 t203.length co46 : Value).ownBlock ∧ some k_ ≠ (.slice Ao51 t212.length co51 : Value).ownBlock ∧ some k_ ≠ (.slice Ao64 y229.length co64 : Value).ownBlock) (Kd.R_keptB (HO211.out) hkp (fun k_ hk_ hs_ => (hk_.2) hs_)) (fun k_ hk_ => ⟨hk_.1.1.1.1.1.1.1.1.1.1, hk_.1.1.1.1.1.1.1.1.2, hk_.1.1.1.1.1.1.1.2, hk_.1.1.1.1.1.1.2, hk_.1.1.1.1.1.2, hk_.1.1.1.1.2, hk_.1.1.1.2, hk_.1.1.2, hk_.1.2⟩)); have n12_ := Aside0.mk (Kd.R_mono (ok' := fun k_ => (w.heap.size ≤ k_) ∧ some k_ ≠ (.slice Ao33 t182.length co33 : Value).ownBlock ∧ some k_ ≠ (.slice Ao34 t185.length co34 : Value).ownBlock ∧ some k_ ≠ (.slice Ao39 t191.length co39 : Value).ownBlock ∧ some k_ ≠ (.slice Ao40 t194.length co40 : Value).ownBlock ∧ some k_ ≠ (.slice Ao45 t200.length co45 : Value).ownBlock ∧ some k_ ≠ (.slice Ao46 t203.length co46 : Value).ownBlock ∧ some k_ ≠ (.slice Ao50 t209.length co50 : Value).ownBlock ∧ some k_ ≠ (.slice Ao64 y229.length co64 : Value).ownBlock) (Kd.R_keptB (HO214.out) hkp (fun k_ hk_ hs_ => (hk_.2) hs_)) (fun k_ hk_ => ⟨hk_.1.1.1.1.1.1.1.1.1.1, hk_.1.1.1.1.1.1.1.1.2, hk_.1.1.1.1.1.1.1.2, hk_.1.1.1.1.1.1.2, hk_.1.1.1.1.1.2, hk_.1.1.1.1.2, hk_.1.1.1.2, hk_.1.1.2, hk_.1.2⟩)); have n13_ := Aside0.mk (Kd.V_mono (ok' := fun k_ => ((P0_ k_ ∨ P1_ k_) ∨ w.heap.size ≤ k_) ∧ some k_ ≠ (.slice Ao33 t182.length co33 : Value).ownBlock ∧ some k_ ≠ (.slice Ao34 t185.length co34 : Value).ownBlock ∧ some k_ ≠ (.slice Ao39 t191.length co39 : Value).ownBlock ∧ some k_ ≠ (.slice Ao40 t194.length co40 : Value).ownBlock ∧ some k_ ≠ (.slice Ao45 t200.length co45 : Value).ownBlock ∧ some k_ ≠ (.slice Ao46 t203.length co46 : Value).ownBlock ∧ some k_ ≠ (.slice Ao64 y229.length co64 : Value).ownBlock) (Kd.V_keptB (HO217.out) hkp (fun k_ hk_ hs_ => (hk_.2) hs_)) (fun k_ hk_ => ⟨hk_.1.1.1, hk_.1.1.2.1, hk_.1.1.2.2.1, hk_.1.1.2.2.2.1, hk_.1.1.2.2.2.2.1, hk_.1.1.2.2.2.2.2.1, hk_.1.1.2.2.2.2.2.2, hk_.1.2⟩)); have n14_ := Aside0.mk (Kd.V_mono (ok' := fun k_ => ((P0_ k_ ∨ P1_ k_) ∨ w.heap.size ≤ k_) ∧ some k_ ≠ (.slice Ao33 t182.length co33 : Value).ownBlock ∧ some k_ ≠ (.slice Ao34 t185.length co34 : Value).ownBlock ∧ some k_ ≠ (.slice Ao39 t191.length co39 : Value).ownBlock ∧ some k_ ≠ (.slice Ao40 t194.length co40 : Value).ownBlock ∧ some k_ ≠ (.slice Ao64 y229.length co64 : Value).ownBlock) (Kd.V_keptB (HO220.out) hkp (fun k_ hk_ hs_ => (hk_.2) hs_)) (fun k_ hk_ => ⟨hk_.1.1.1, hk_.1.1.2.1, hk_.1.1.2.2.1, hk_.1.1.2.2.2.1, hk_.1.1.2.2.2.2, hk_.1.2⟩)); have n15_ := Aside0.mk (Kd.V_mono (ok' := fun k_ => ((P0_ k_ ∨ P1_ k_) ∨ w.heap.size ≤ k_) ∧ some k_ ≠ (.slice Ao39 t191.length co39 : Value).ownBlock ∧ some k_ ≠ (.slice Ao40 t194.length co40 : Value).ownBlock ∧ some k_ ≠ (.slice Ao64 y229.length co64 : Value).ownBlock) (Kd.V_keptB (HO223.out) hkp (fun k_ hk_ hs_ => (hk_.2) hs_)) (fun k_ hk_ => ⟨hk_.1.1.1, hk_.1.1.2.1, hk_.1.1.2.2, hk_.1.2⟩)); have n16_ := Aside0.mk (Kd.V_mono (ok' := fun k_ => ((P0_ k_ ∨ P1_ k_) ∨ w.heap.size ≤ k_) ∧ some k_ ≠ (.slice Ao64 y229.length co64 : Value).ownBlock) (Kd.V_keptB (HO227.out) hkp (fun k_ hk_ hs_ => (hk_.2) hs_)) (fun k_ hk_ => ⟨hk_.1.1, hk_.1.2⟩)); have n17_ := Aside0.mk (Kd.R_reok rfl hy0 (fun k_ e_ => HO231.out.1 k_ e_)); have n18_ := Aside0.mk (hb); clear HO0; clear HO1; clear HO184; clear HO187; clear HO190; clear HO193; clear HO196; clear HO199; clear HO202; clear HO205; clear HO208; clear HO211; clear HO214; clear HO217; clear HO220; clear HO223; clear HO227; clear HO231; clear HB; have HO0 := n0_; have HO1 := n1_; have HO184 := n2_; have HO187 := n3_; have HO190 := n4_; have HO193 := n5_; have HO196 := n6_; have HO199 := n7_; have HO202 := n8_; have HO205 := n9_; have HO208 := n10_; have HO211 := n11_; have HO214 := n12_; have HO217 := n13_; have HO220 := n14_; have HO223 := n15_; have HO227 := n16_; have HO231 := n17_; have HB := n18_; clear n0_ n1_ n2_ n3_ n4_ n5_ n6_ n7_ n8_ n9_ n10_ n11_ n12_ n13_ n14_ n15_ n16_ n17_ n18_; (try clear hb); (try clear hkp); (try clear hy0); obtain ⟨Ao66, co66, eo66⟩ := Kd.V_slice HO227.out; subst eo66) | ((with_reducible refine gate_callee (f := 22) rfl ?_); refine goesL_ (some 87) rfl rfl Try.func22 (by kernel_rfl) rfl #[.slice Ao64 y229.length co64, .slice Ao66 t225.length co66, .int .i64 (wrap64 (Int.tdiv (wrap64 ((ji3) + 1)) 2))] rfl (by (try simp only [List.map_toArray, List.map_cons, List.map_nil]); first | done | (simp only [hji3]; rfl) | rfl | (simp only [List.length_drop, List.length_take]; rfl)) ?_; (with_reducible refine (kara_add.calls k (fun k_ => some k_ = (.slice Ao64 y229.length co64 : Value).ownBlock) (.slice Ao64 y229.length co64) t232 _ _ t225 (wrap64 (Int.tdiv (wrap64 ((ji3) + 1)) 2)) t233 w _ ?side1 ?side2 ?side3 ?side4 A27.out).mono ?_); (case side1 => repeat (first | (with_reducible first | exact HB.out | apply below_alloc | apply pw_below_drewN | apply below_drew1) | exact HB.out)); (case side2 => exact Kd.R_tight rfl HO231.out); (case side3 => exact Kd.C_kept_ownV (HO227.out) (fun k_ hk_ hs_ => (hk_.2) hs_)); (case side4 => exact (Kd.V_reads' HO227.out).2.1); rintro e w67 ⟨rfl, hy0, hb, hkp⟩; refine ⟨_, rfl, ?_⟩; have n0_ := Aside0.mk (Kd.V_mono (ok' := fun k_ => ((P0_ k_ ∨ P1_ k_) ∨ w.heap.size ≤ k_) ∧ some k_ ≠ (.slice Ao33 t182.length co33 : Value).ownBlock ∧ some k_ ≠ (.slice Ao34 t185.length co34 : Value).ownBlock ∧ some k_ ≠ (.slice Ao39 t191.length co39 : Value).ownBlock ∧ some k_ ≠ (.slice Ao40 t194.length co40 : Value).ownBlock ∧ some k_ ≠ (.slice Ao45 t200.length co45 : Value).ownBlock ∧ some k_ ≠ (.slice Ao46 t203.length co46 : Value).ownBlock ∧ some k_ ≠ (.slice Ao50 t209.length co50 : Value).ownBlock ∧ some k_ ≠ (.slice Ao51 t212.length co51 : Value).ownBlock ∧ some k_ ≠ (.slice Ao64 y229.length co64 : Value).ownBlock) (Kd.V_keptB (HO0.out) hkp (fun k_ hk_ hs_ => (hk_.2.2.2.2.2.2.2.2.2) hs_)) (fun k_ hk_ => ⟨hk_.1.1, hk_.1.2.1, hk_.1.2.2.1, hk_.1.2.2.2.1, hk_.1.2.2.2.2.1, hk_.1.2.2.2.2.2.1, hk_.1.2.2.2.2.2.2.1, hk_.1.2.2.2.2.2.2.2.1, hk_.1.2.2.2.2.2.2.2.2.1, hk_.1.2.2.2.2.2.2.2.2.2⟩)); have n1_ := Aside0.mk (Kd.V_mono (ok' := fun k_ => ((P0_ k_ ∨ P1_ k_) ∨ w.heap.size ≤ k_) ∧ some k_ ≠ (.slice Ao33 t182.length co33 : Value).ownBlock ∧ some k_ ≠ (.slice Ao34 t185.length co34 : Value).ownBlock ∧ some k_ ≠ (.slice Ao39 t191.length co39 : Value).ownBlock ∧ some k_ ≠ (.slice Ao40 t194.length co40 : Value).ownBlock ∧ some k_ ≠ (.slice Ao45 t200.length co45 : Value).ownBlock ∧ some k_ ≠ (.slice Ao46 t203.length co46 : Value).ownBlock ∧ some k_ ≠ (.slice Ao50 t209.length co50 : Value).ownBlock ∧ some k_ ≠ (.slice Ao51 t212.length co51 : Value).ownBlock ∧ some k_ ≠ (.slice Ao64 y229.length co64 : Value).ownBlock) (Kd.V_keptB (HO1.out) hkp (fun k_ hk_ hs_ => (hk_.2.2.2.2.2.2.2.2.2) hs_)) (fun k_ hk_ => ⟨hk_.1.1, hk_.1.2.1, hk_.1.2.2.1, hk_.1.2.2.2.1, hk_.1.2.2.2.2.1, hk_.1.2.2.2.2.2.1, hk_.1.2.2.2.2.2.2.1, hk_.1.2.2.2.2.2.2.2.1, hk_.1.2.2.2.2.2.2.2.2.1, hk_.1.2.2.2.2.2.2.2.2.2⟩)); have n2_ := Aside0.mk (Kd.R_mono (ok' := fun k_ => (w.heap.size ≤ k_) ∧ some k_ ≠ (.slice Ao34 t185.length co34 : Value).ownBlock ∧ some k_ ≠ (.slice Ao39 t191.length co39 : Value).ownBlock ∧ some k_ ≠ (.slice Ao40 t194.length co40 : Value).ownBlock ∧ some k_ ≠ (.slice Ao45 t200.length co45 : Value).ownBlock ∧ some k_ ≠ (.slice Ao46 t203.length co46 : Value).ownBlock ∧ some k_ ≠ (.slice Ao50 t209.length co50 : Value).ownBlock ∧ some k_ ≠ (.slice Ao51 t212.length co51 : Value).ownBlock ∧ some k_ ≠ (.slice Ao64 y229.length co64 : Value).ownBlock) (Kd.R_keptB (HO184.out) hkp (fun k_ hk_ hs_ => (hk_.2.2.2.2.2.2.2.2) hs_)) (fun k_ hk_ => ⟨hk_.1.1, hk_.1.2.1, hk_.1.2.2.1, hk_.1.2.2.2.1, hk_.1.2.2.2.2.1, hk_.1.2.2.2.2.2.1, hk_.1.2.2.2.2.2.2.1, hk_.1.2.2.2.2.2.2.2.1, hk_.1.2.2.2.2.2.2.2.2⟩)); have n3_ := Aside0.mk (Kd.R_mono (ok' := fun k_ => (w.heap.size ≤ k_) ∧ some k_ ≠ (.slice Ao33 t182.length co33 : Value).ownBlock ∧ some k_ ≠ (.slice Ao39 t191.length co39 : Value).ownBlock ∧ some k_ ≠ (.slice Ao40 t194.length co40 : Value).ownBlock ∧ some k_ ≠ (.slice Ao45 t200.length co45 : Value).ownBlock ∧ some k_ ≠ (.slice Ao46 t203.length co46 : Value).ownBlock ∧ some k_ ≠ (.slice Ao50 t209.length co50 : Value).ownBlock ∧ some k_ ≠ (.slice Ao51 t212.length co51 : Value).ownBlock ∧ some k_ ≠ (.slice Ao64 y229.length co64 : Value).ownBlock) (Kd.R_keptB (HO187.out) hkp (fun k_ hk_ hs_ => (hk_.2.2.2.2.2.2.2.2) hs_)) (fun k_ hk_ => ⟨hk_.1.1, hk_.1.2.1, hk_.1.2.2.1, hk_.1.2.2.2.1, hk_.1.2.2.2.2.1, hk_.1.2.2.2.2.2.1, hk_.1.2.2.2.2.2.2.1, hk_.1.2.2.2.2.2.2.2.1, hk_.1.2.2.2.2.2.2.2.2⟩)); have n4_ := Aside0.mk (Kd.V_mono (ok' := fun k_ => ((P0_ k_ ∨ P1_ k_) ∨ w.heap.size ≤ k_) ∧ some k_ ≠ (.slice Ao39 t191.length co39 : Value).ownBlock ∧ some k_ ≠ (.slice Ao40 t194.length co40 : Value).ownBlock ∧ some k_ ≠ (.slice Ao45 t200.length co45 : Value).ownBlock ∧ some k_ ≠ (.slice Ao46 t203.length co46 : Value).ownBlock ∧ some k_ ≠ (.slice Ao50 t209.length co50 : Value).ownBlock ∧ some k_ ≠ (.slice Ao51 t212.length co51 : Value).ownBlock ∧ some k_ ≠ (.slice Ao64 y229.length co64 : Value).ownBlock) (Kd.V_keptB (HO190.out) hkp (fun k_ hk_ hs_ => (hk_.2.2.2.2.2.2.2) hs_)) (fun k_ hk_ => ⟨hk_.1.1, hk_.1.2.1, hk_.1.2.2.1, hk_.1.2.2.2.1, hk_.1.2.2.2.2.1, hk_.1.2.2.2.2.2.1, hk_.1.2.2.2.2.2.2.1, hk_.1.2.2.2.2.2.2.2⟩)); have n5_ := Aside0.mk (Kd.R_mono (ok' := fun k_ => (w.heap.size ≤ k_) ∧ some k_ ≠ (.slice Ao33 t182.length co33 : Value).ownBlock ∧ some k_ ≠ (.slice Ao34 t185.length co34 : Value).ownBlock ∧ some k_ ≠ (.slice Ao40 t194.length co40 : Value).ownBlock ∧ some k_ ≠ (.slice Ao45 t200.length co45 : Value).ownBlock ∧ some k_ ≠ (.slice Ao46 t203.length co46 : Value).ownBlock ∧ some k_ ≠ (.slice Ao50 t209.length co50 : Value).ownBlock ∧ some k_ ≠ (.slice Ao51 t212.length co51 : Value).ownBlock ∧ some k_ ≠ (.slice Ao64 y229.length co64 : Value).ownBlock) (Kd.R_keptB (HO193.out) hkp (fun k_ hk_ hs_ => (hk_.2.2.2.2.2.2.2.2) hs_)) (fun k_ hk_ => ⟨hk_.1.1, hk_.1.2.1, hk_.1.2.2.1, hk_.1.2.2.2.1, hk_.1.2.2.2.2.1, hk_.1.2.2.2.2.2.1, hk_.1.2.2.2.2.2.2.1, hk_.1.2.2.2.2.2.2.2.1, hk_.1.2.2.2.2.2.2.2.2⟩)); have n6_ := Aside0.mk (Kd.R_mono (ok' := fun k_ => (w.heap.size ≤ k_) ∧ some k_ ≠ (.slice Ao33 t182.length co33 : Value).ownBlock ∧ some k_ ≠ (.slice Ao34 t185.length co34 : Value).ownBlock ∧ some k_ ≠ (.slice Ao39 t191.length co39 : Value).ownBlock ∧ some k_ ≠ (.slice Ao45 t200.length co45 : Value).ownBlock ∧ some k_ ≠ (.slice Ao46 t203.length co46 : Value).ownBlock ∧ some k_ ≠ (.slice Ao50 t209.length co50 : Value).ownBlock ∧ some k_ ≠ (.slice Ao51 t212.length co51 : Value).ownBlock ∧ some k_ ≠ (.slice Ao64 y229.length co64 : Value).ownBlock) (Kd.R_keptB (HO196.out) hkp (fun k_ hk_ hs_ => (hk_.2.2.2.2.2.2.2.2) hs_)) (fun k_ hk_ => ⟨hk_.1.1, hk_.1.2.1, hk_.1.2.2.1, hk_.1.2.2.2.1, hk_.1.2.2.2.2.1, hk_.1.2.2.2.2.2.1, hk_.1.2.2.2.2.2.2.1, hk_.1.2.2.2.2.2.2.2.1, hk_.1.2.2.2.2.2.2.2.2⟩)); have n7_ := Aside0.mk (Kd.V_mono (ok' := fun k_ => ((P0_ k_ ∨ P1_ k_) ∨ w.heap.size ≤ k_) ∧ some k_ ≠ (.slice Ao33 t182.length co33 : Value).ownBlock ∧ some k_ ≠ (.slice Ao34 t185.length co34 : Value).ownBlock ∧ some k_ ≠ (.slice Ao45 t200.length co45 : Value).ownBlock ∧ some k_ ≠ (.slice Ao46 t203.length co46 : Value).ownBlock ∧ some k_ ≠ (.slice Ao50 t209.length co50 : Value).ownBlock ∧ some k_ ≠ (.slice Ao51 t212.length co51 : Value).ownBlock ∧ some k_ ≠ (.slice Ao64 y229.length co64 : Value).ownBlock) (Kd.V_keptB (HO199.out) hkp (fun k_ hk_ hs_ => (hk_.2.2.2.2.2.2.2) hs_)) (fun k_ hk_ => ⟨hk_.1.1, hk_.1.2.1, hk_.1.2.2.1, hk_.1.2.2.2.1, hk_.1.2.2.2.2.1, hk_.1.2.2.2.2.2.1, hk_.1.2.2.2.2.2.2.1, hk_.1.2.2.2.2.2.2.2⟩)); have n8_ := Aside0.mk (Kd.R_mono (ok' := fun k_ => (w.heap.size ≤ k_) ∧ some k_ ≠ (.slice Ao33 t182.length co33 : Value).ownBlock ∧ some k_ ≠ (.slice Ao34 t185.length co34 : Value).ownBlock ∧ some k_ ≠ (.slice Ao39 t191.length co39 : Value).ownBlock ∧ some k_ ≠ (.slice Ao40 t194.length co40 : Value).ownBlock ∧ some k_ ≠ (.slice Ao46 t203.length co46 : Value).ownBlock ∧ some k_ ≠ (.slice Ao50 t209.length co50 : Value).ownBlock ∧ some k_ ≠ (.slice Ao51 t212.length co51 : Value).ownBlock ∧ some k_ ≠ (.slice Ao64 y229.length co64 : Value).ownBlock) (Kd.R_keptB (HO202.out) hkp (fun k_ hk_ hs_ => (hk_.2.2.2.2.2.2.2.2) hs_)) (fun k_ hk_ => ⟨hk_.1.1, hk_.1.2.1, hk_.1.2.2.1, hk_.1.2.2.2.1, hk_.1.2.2.2.2.1, hk_.1.2.2.2.2.2.1, hk_.1.2.2.2.2.2.2.1, hk_.1.2.2.2.2.2.2.2.1, hk_.1.2.2.2.2.2.2.2.2⟩)); have n9_ := Aside0.mk (Kd.R_mono (ok' := fun k_ => (w.heap.size ≤ k_) ∧ some k_ ≠ (.slice Ao33 t182.length co33 : Value).ownBlock ∧ some k_ ≠ (.slice Ao34 t185.length co34 : Value).ownBlock ∧ some k_ ≠ (.slice Ao39 t191.length co39 : Value).ownBlock ∧ some k_ ≠ (.slice Ao40 t194.length co40 : Value).ownBlock ∧ some k_ ≠ (.slice Ao45 t200.length co45 : Value).ownBlock ∧ some k_ ≠ (.slice Ao50 t209.length co50 : Value).ownBlock ∧ some k_ ≠ (.slice Ao51 t212.length co51 : Value).ownBlock ∧ some k_ ≠ (.slice Ao64 y229.length co64 : Value).ownBlock) (Kd.R_keptB (HO205.out) hkp (fun k_ hk_ hs_ => (hk_.2.2.2.2.2.2.2.2) hs_)) (fun k_ hk_ => ⟨hk_.1.1, hk_.1.2.1, hk_.1.2.2.1, hk_.1.2.2.2.1, hk_.1.2.2.2.2.1, hk_.1.2.2.2.2.2.1, hk_.1.2.2.2.2.2.2.1, hk_.1.2.2.2.2.2.2.2.1, hk_.1.2.2.2.2.2.2.2.2⟩)); have n10_ := Aside0.mk (Kd.V_mono (ok' := fun k_ => ((P0_ k_ ∨ P1_ k_) ∨ w.heap.size ≤ k_) ∧ some k_ ≠ (.slice Ao33 t182.length co33 : Value).ownBlock ∧ some k_ ≠ (.slice Ao34 t185.length co34 : Value).ownBlock ∧ some k_ ≠ (.slice Ao39 t191.length co39 : Value).ownBlock ∧ some k_ ≠ (.slice Ao40 t194.length co40 : Value).ownBlock ∧ some k_ ≠ (.slice Ao50 t209.length co50 : Value).ownBlock ∧ some k_ ≠ (.slice Ao51 t212.length co51 : Value).ownBlock ∧ some k_ ≠ (.slice Ao64 y229.length co64 : Value).ownBlock) (Kd.V_keptB (HO208.out) hkp (fun k_ hk_ hs_ => (hk_.2.2.2.2.2.2.2) hs_)) (fun k_ hk_ => ⟨hk_.1.1, hk_.1.2.1, hk_.1.2.2.1, hk_.1.2.2.2.1, hk_.1.2.2.2.2.1, hk_.1.2.2.2.2.2.1, hk_.1.2.2.2.2.2.2.1, hk_.1.2.2.2.2.2.2.2⟩)); have n11_ := Aside0.mk (Kd.R_mono (ok' := fun k_ => (w.heap.size ≤ k_) ∧ some k_ ≠ (.slice Ao33 t182.length co33 : Value).ownBlock ∧ some k_ ≠ (.slice Ao34 t185.length co34 : Value).ownBlock ∧ some k_ ≠ (.slice Ao39 t191.length co39 : Value).ownBlock ∧ some k_ ≠ (.slice Ao40 t194.length co40 : Value).ownBlock ∧ some k_ ≠ (.slice Ao45 t200.length co45 : Value).ownBlock ∧ some k_ ≠ (.slice Ao46 t203.length co46 : Value).ownBlock ∧ some k_ ≠ (.slice Ao51 t212.length co51 : Value).ownBlock ∧ some k_ ≠ (.slice Ao64 y229.length co64 : Value).ownBlock) (Kd.R_keptB (HO211.out) hkp (fun k_ hk_ hs_ => (hk_.2.2.2.2.2.2.2.2) hs_)) (fun k_ hk_ => ⟨hk_.1.1, hk_.1.2.1, hk_.1.2.2.1, hk_.1.2.2.2.1, hk_.1.2.2.2.2.1, hk_.1.2.2.2.2.2.1, hk_.1.2.2.2.2.2.2.1, hk_.1.2.2.2.2.2.2.2.1, hk_.1.2.2.2.2.2.2.2.2⟩)); have n12_ := Aside0.mk (Kd.R_mono (ok' := fun k_ => (w.heap.size ≤ k_) ∧ some k_ ≠ (.slice Ao33 t182.length co33 : Value).ownBlock ∧ some k_ ≠ (.slice Ao34 t185.length co34 : Value).ownBlock ∧ some k_ ≠ (.slice Ao39 t191.length co39 : Value).ownBlock ∧ some k_ ≠ (.slice Ao40 t194.length co40 : Value).ownBlock ∧ some k_ ≠ (.slice Ao45 t200.length co45 : Value).ownBlock ∧ some k_ ≠ (.slice Ao46 t203.length co46 : Value).ownBlock ∧ some k_ ≠ (.slice Ao50 t209.length co50 : Value).ownBlock ∧ some k_ ≠ (.slice Ao64 y229.length co64 : Value).ownBlock) (Kd.R_keptB (HO214.out) hkp (fun k_ hk_ hs_ => (hk_.2.2.2.2.2.2.2.2) hs_)) (fun k_ hk_ => ⟨hk_.1.1, hk_.1.2.1, hk_.1.2.2.1, hk_.1.2.2.2.1, hk_.1.2.2.2.2.1, hk_.1.2.2.2.2.2.1, hk_.1.2.2.2.2.2.2.1, hk_.1.2.2.2.2.2.2.2.1, hk_.1.2.2.2.2.2.2.2.2⟩)); have n13_ := Aside0.mk (Kd.V_mono (ok' := fun k_ => ((P0_ k_ ∨ P1_ k_) ∨ w.heap.size ≤ k_) ∧ some k_ ≠ (.slice Ao33 t182.length co33 : Value).ownBlock ∧ some k_ ≠ (.slice Ao34 t185.length co34 : Value).ownBlock ∧ some k_ ≠ (.slice Ao39 t191.length co39 : Value).ownBlock ∧ some k_ ≠ (.slice Ao40 t194.length co40 : Value).ownBlock ∧ some k_ ≠ (.slice Ao45 t200.length co45 : Value).ownBlock ∧ some k_ ≠ (.slice Ao46 t203.length co46 : Value).ownBlock ∧ some k_ ≠ (.slice Ao64 y229.length co64 : Value).ownBlock) (Kd.V_keptB (HO217.out) hkp (fun k_ hk_ hs_ => (hk_.2.2.2.2.2.2.2) hs_)) (fun k_ hk_ => ⟨hk_.1.1, hk_.1.2.1, hk_.1.2.2.1, hk_.1.2.2.2.1, hk_.1.2.2.2.2.1, hk_.1.2.2.2.2.2.1, hk_.1.2.2.2.2.2.2.1, hk_.1.2.2.2.2.2.2.2⟩)); have n14_ := Aside0.mk (Kd.V_mono (ok' := fun k_ => ((P0_ k_ ∨ P1_ k_) ∨ w.heap.size ≤ k_) ∧ some k_ ≠ (.slice Ao33 t182.length co33 : Value).ownBlock ∧ some k_ ≠ (.slice Ao34 t185.length co34 : Value).ownBlock ∧ some k_ ≠ (.slice Ao39 t191.length co39 : Value).ownBlock ∧ some k_ ≠ (.slice Ao40 t194.length co40 : Value).ownBlock ∧ some k_ ≠ (.slice Ao64 y229.length co64 : Value).ownBlock) (Kd.V_keptB (HO220.out) hkp (fun k_ hk_ hs_ => (hk_.2.2.2.2.2) hs_)) (fun k_ hk_ => ⟨hk_.1.1, hk_.1.2.1, hk_.1.2.2.1, hk_.1.2.2.2.1, hk_.1.2.2.2.2.1, hk_.1.2.2.2.2.2⟩)); have n15_ := Aside0.mk (Kd.V_mono (ok' := fun k_ => ((P0_ k_ ∨ P1_ k_) ∨ w.heap.size ≤ k_) ∧ some k_ ≠ (.slice Ao39 t191.length co39 : Value).ownBlock ∧ some k_ ≠ (.slice Ao40 t194.length co40 : Value).ownBlock ∧ some k_ ≠ (.slice Ao64 y229.length co64 : Value).ownBlock) (Kd.V_keptB (HO223.out) hkp (fun k_ hk_ hs_ => (hk_.2.2.2) hs_)) (fun k_ hk_ => ⟨hk_.1.1, hk_.1.2.1, hk_.1.2.2.1, hk_.1.2.2.2⟩)); have n16_ := Aside0.mk (Kd.V_mono (ok' := fun k_ => ((P0_ k_ ∨ P1_ k_) ∨ w.heap.size ≤ k_) ∧ some k_ ≠ (.slice Ao64 y229.length co64 : Value).ownBlock) (Kd.V_keptB (HO227.out) hkp (fun k_ hk_ hs_ => (hk_.2) hs_)) (fun k_ hk_ => ⟨hk_.1.1, hk_.1.2⟩)); have n17_ := Aside0.mk (Kd.R_reok rfl hy0 (fun k_ e_ => HO231.out.1 k_ e_)); have n18_ := Aside0.mk (hb); clear HO0; clear HO1; clear HO184; clear HO187; clear HO190; clear HO193; clear HO196; clear HO199; clear HO202; clear HO205; clear HO208; clear HO211; clear HO214; clear HO217; clear HO220; clear HO223; clear HO227; clear HO231; clear HB; have HO0 := n0_; have HO1 := n1_; have HO184 := n2_; have HO187 := n3_; have HO190 := n4_; have HO193 := n5_; have HO196 := n6_; have HO199 := n7_; have HO202 := n8_; have HO205 := n9_; have HO208 := n10_; have HO211 := n11_; have HO214 := n12_; have HO217 := n13_; have HO220 := n14_; have HO223 := n15_; have HO227 := n16_; have HO231 := n17_; have HB := n18_; clear n0_ n1_ n2_ n3_ n4_ n5_ n6_ n7_ n8_ n9_ n10_ n11_ n12_ n13_ n14_ n15_ n16_ n17_ n18_; (try clear hb); (try clear hkp); (try clear hy0)) | ((with_reducible refine gate_callee (f := 22) rfl ?_); refine goesL_ (some 92) rfl rfl Try.func22 (by kernel_rfl) rfl #[.slice Ao64 y229.length co64, .slice Ao60 t197.length co60, .int .i64 (wrap64 (2 * (wrap64 (Int.tdiv (wrap64 ((ji3) + 1)) 2))))] rfl (by (try simp only [List.map_toArray, List.map_cons, List.map_nil]); first | done | (simp only [hji3]; rfl) | rfl | (simp only [List.length_drop, List.length_take]; rfl)) ?_; (with_reducible refine (kara_add.calls k (fun k_ => some k_ = (.slice Ao64 y229.length co64 : Value).ownBlock) (.slice Ao64 y229.length co64) t233 _ _ t197 (wrap64 (2 * (wrap64 (Int.tdiv (wrap64 ((ji3) + 1)) 2)))) t234 w _ ?side1 ?side2 ?side3 ?side4 A28.out).mono ?_); (case side1 => repeat (first | (with_reducible first | exact HB.out | apply below_alloc | apply pw_below_drewN | apply below_drew1) | exact HB.out)); (case side2 => exact Kd.R_tight rfl HO231.out); (case side3 => exact Kd.C_kept_ownV (HO199.out) (fun k_ hk_ hs_ => (hk_.2.2.2.2.2.2.2) hs_)); (case side4 => exact (Kd.V_reads' HO199.out).2.1); rintro e w68 ⟨rfl, hy0, hb, hkp⟩; refine ⟨_, rfl, ?_⟩; have n0_ := Aside0.mk (Kd.V_mono (ok' := fun k_ => ((P0_ k_ ∨ P1_ k_) ∨ w.heap.size ≤ k_) ∧ some k_ ≠ (.slice Ao33 t182.length co33 : Value).ownBlock ∧ some k_ ≠ (.slice Ao34 t185.length co34 : Value).ownBlock ∧ some k_ ≠ (.slice Ao39 t191.length co39 : Value).ownBlock ∧ some k_ ≠ (.slice Ao40 t194.length co40 : Value).ownBlock ∧ some k_ ≠ (.slice Ao45 t200.length co45 : Value).ownBlock ∧ some k_ ≠ (.slice Ao46 t203.length co46 : Value).ownBlock ∧ some k_ ≠ (.slice Ao50 t209.length co50 : Value).ownBlock ∧ some k_ ≠ (.slice Ao51 t212.length co51 : Value).ownBlock ∧ some k_ ≠ (.slice Ao64 y229.length co64 : Value).ownBlock) (Kd.V_keptB (HO0.out) hkp (fun k_ hk_ hs_ => (hk_.2.2.2.2.2.2.2.2.2) hs_)) (fun k_ hk_ => ⟨hk_.1.1, hk_.1.2.1, hk_.1.2.2.1, hk_.1.2.2.2.1, hk_.1.2.2.2.2.1, hk_.1.2.2.2.2.2.1, hk_.1.2.2.2.2.2.2.1, hk_.1.2.2.2.2.2.2.2.1, hk_.1.2.2.2.2.2.2.2.2.1, hk_.1.2.2.2.2.2.2.2.2.2⟩)); have n1_ := Aside0.mk (Kd.V_mono (ok' := fun k_ => ((P0_ k_ ∨ P1_ k_) ∨ w.heap.size ≤ k_) ∧ some k_ ≠ (.slice Ao33 t182.length co33 : Value).ownBlock ∧ some k_ ≠ (.slice Ao34 t185.length co34 : Value).ownBlock ∧ some k_ ≠ (.slice Ao39 t191.length co39 : Value).ownBlock ∧ some k_ ≠ (.slice Ao40 t194.length co40 : Value).ownBlock ∧ some k_ ≠ (.slice Ao45 t200.length co45 : Value).ownBlock ∧ some k_ ≠ (.slice Ao46 t203.length co46 : Value).ownBlock ∧ some k_ ≠ (.slice Ao50 t209.length co50 : Value).ownBlock ∧ some k_ ≠ (.slice Ao51 t212.length co51 : Value).ownBlock ∧ some k_ ≠ (.slice Ao64 y229.length co64 : Value).ownBlock) (Kd.V_keptB (HO1.out) hkp (fun k_ hk_ hs_ => (hk_.2.2.2.2.2.2.2.2.2) hs_)) (fun k_ hk_ => ⟨hk_.1.1, hk_.1.2.1, hk_.1.2.2.1, hk_.1.2.2.2.1, hk_.1.2.2.2.2.1, hk_.1.2.2.2.2.2.1, hk_.1.2.2.2.2.2.2.1, hk_.1.2.2.2.2.2.2.2.1, hk_.1.2.2.2.2.2.2.2.2.1, hk_.1.2.2.2.2.2.2.2.2.2⟩)); have n2_ := Aside0.mk (Kd.R_mono (ok' := fun k_ => (w.heap.size ≤ k_) ∧ some k_ ≠ (.slice Ao34 t185.length co34 : Value).ownBlock ∧ some k_ ≠ (.slice Ao39 t191.length co39 : Value).ownBlock ∧ some k_ ≠ (.slice Ao40 t194.length co40 : Value).ownBlock ∧ some k_ ≠ (.slice Ao45 t200.length co45 : Value).ownBlock ∧ some k_ ≠ (.slice Ao46 t203.length co46 : Value).ownBlock ∧ some k_ ≠ (.slice Ao50 t209.length co50 : Value).ownBlock ∧ some k_ ≠ (.slice Ao51 t212.length co51 : Value).ownBlock ∧ some k_ ≠ (.slice Ao64 y229.length co64 : Value).ownBlock) (Kd.R_keptB (HO184.out) hkp (fun k_ hk_ hs_ => (hk_.2.2.2.2.2.2.2.2) hs_)) (fun k_ hk_ => ⟨hk_.1.1, hk_.1.2.1, hk_.1.2.2.1, hk_.1.2.2.2.1, hk_.1.2.2.2.2.1, hk_.1.2.2.2.2.2.1, hk_.1.2.2.2.2.2.2.1, hk_.1.2.2.2.2.2.2.2.1, hk_.1.2.2.2.2.2.2.2.2⟩)); have n3_ := Aside0.mk (Kd.R_mono (ok' := fun k_ => (w.heap.size ≤ k_) ∧ some k_ ≠ (.slice Ao33 t182.length co33 : Value).ownBlock ∧ some k_ ≠ (.slice Ao39 t191.length co39 : Value).ownBlock ∧ some k_ ≠ (.slice Ao40 t194.length co40 : Value).ownBlock ∧ some k_ ≠ (.slice Ao45 t200.length co45 : Value).ownBlock ∧ some k_ ≠ (.slice Ao46 t203.length co46 : Value).ownBlock ∧ some k_ ≠ (.slice Ao50 t209.length co50 : Value).ownBlock ∧ some k_ ≠ (.slice Ao51 t212.length co51 : Value).ownBlock ∧ some k_ ≠ (.slice Ao64 y229.length co64 : Value).ownBlock) (Kd.R_keptB (HO187.out) hkp (fun k_ hk_ hs_ => (hk_.2.2.2.2.2.2.2.2) hs_)) (fun k_ hk_ => ⟨hk_.1.1, hk_.1.2.1, hk_.1.2.2.1, hk_.1.2.2.2.1, hk_.1.2.2.2.2.1, hk_.1.2.2.2.2.2.1, hk_.1.2.2.2.2.2.2.1, hk_.1.2.2.2.2.2.2.2.1, hk_.1.2.2.2.2.2.2.2.2⟩)); have n4_ := Aside0.mk (Kd.V_mono (ok' := fun k_ => ((P0_ k_ ∨ P1_ k_) ∨ w.heap.size ≤ k_) ∧ some k_ ≠ (.slice Ao39 t191.length co39 : Value).ownBlock ∧ some k_ ≠ (.slice Ao40 t194.length co40 : Value).ownBlock ∧ some k_ ≠ (.slice Ao45 t200.length co45 : Value).ownBlock ∧ some k_ ≠ (.slice Ao46 t203.length co46 : Value).ownBlock ∧ some k_ ≠ (.slice Ao50 t209.length co50 : Value).ownBlock ∧ some k_ ≠ (.slice Ao51 t212.length co51 : Value).ownBlock ∧ some k_ ≠ (.slice Ao64 y229.length co64 : Value).ownBlock) (Kd.V_keptB (HO190.out) hkp (fun k_ hk_ hs_ => (hk_.2.2.2.2.2.2.2) hs_)) (fun k_ hk_ => ⟨hk_.1.1, hk_.1.2.1, hk_.1.2.2.1, hk_.1.2.2.2.1, hk_.1.2.2.2.2.1, hk_.1.2.2.2.2.2.1, hk_.1.2.2.2.2.2.2.1, hk_.1.2.2.2.2.2.2.2⟩)); have n5_ := Aside0.mk (Kd.R_mono (ok' := fun k_ => (w.heap.size ≤ k_) ∧ some k_ ≠ (.slice Ao33 t182.length co33 : Value).ownBlock ∧ some k_ ≠ (.slice Ao34 t185.length co34 : Value).ownBlock ∧ some k_ ≠ (.slice Ao40 t194.length co40 : Value).ownBlock ∧ some k_ ≠ (.slice Ao45 t200.length co45 : Value).ownBlock ∧ some k_ ≠ (.slice Ao46 t203.length co46 : Value).ownBlock ∧ some k_ ≠ (.slice Ao50 t209.length co50 : Value).ownBlock ∧ some k_ ≠ (.slice Ao51 t212.length co51 : Value).ownBlock ∧ some k_ ≠ (.slice Ao64 y229.length co64 : Value).ownBlock) (Kd.R_keptB (HO193.out) hkp (fun k_ hk_ hs_ => (hk_.2.2.2.2.2.2.2.2) hs_)) (fun k_ hk_ => ⟨hk_.1.1, hk_.1.2.1, hk_.1.2.2.1, hk_.1.2.2.2.1, hk_.1.2.2.2.2.1, hk_.1.2.2.2.2.2.1, hk_.1.2.2.2.2.2.2.1, hk_.1.2.2.2.2.2.2.2.1, hk_.1.2.2.2.2.2.2.2.2⟩)); have n6_ := Aside0.mk (Kd.R_mono (ok' := fun k_ => (w.heap.size ≤ k_) ∧ some k_ ≠ (.slice Ao33 t182.length co33 : Value).ownBlock ∧ some k_ ≠ (.slice Ao34 t185.length co34 : Value).ownBlock ∧ some k_ ≠ (.slice Ao39 t191.length co39 : Value).ownBlock ∧ some k_ ≠ (.slice Ao45 t200.length co45 : Value).ownBlock ∧ some k_ ≠ (.slice Ao46 t203.length co46 : Value).ownBlock ∧ some k_ ≠ (.slice Ao50 t209.length co50 : Value).ownBlock ∧ some k_ ≠ (.slice Ao51 t212.length co51 : Value).ownBlock ∧ some k_ ≠ (.slice Ao64 y229.length co64 : Value).ownBlock) (Kd.R_keptB (HO196.out) hkp (fun k_ hk_ hs_ => (hk_.2.2.2.2.2.2.2.2) hs_)) (fun k_ hk_ => ⟨hk_.1.1, hk_.1.2.1, hk_.1.2.2.1, hk_.1.2.2.2.1, hk_.1.2.2.2.2.1, hk_.1.2.2.2.2.2.1, hk_.1.2.2.2.2.2.2.1, hk_.1.2.2.2.2.2.2.2.1, hk_.1.2.2.2.2.2.2.2.2⟩)); have n7_ := Aside0.mk (Kd.V_mono (ok' := fun k_ => ((P0_ k_ ∨ P1_ k_) ∨ w.heap.size ≤ k_) ∧ some k_ ≠ (.slice Ao33 t182.length co33 : Value).ownBlock ∧ some k_ ≠ (.slice Ao34 t185.length co34 : Value).ownBlock ∧ some k_ ≠ (.slice Ao45 t200.length co45 : Value).ownBlock ∧ some k_ ≠ (.slice Ao46 t203.length co46 : Value).ownBlock ∧ some k_ ≠ (.slice Ao50 t209.length co50 : Value).ownBlock ∧ some k_ ≠ (.slice Ao51 t212.length co51 : Value).ownBlock ∧ some k_ ≠ (.slice Ao64 y229.length co64 : Value).ownBlock) (Kd.V_keptB (HO199.out) hkp (fun k_ hk_ hs_ => (hk_.2.2.2.2.2.2.2) hs_)) (fun k_ hk_ => ⟨hk_.1.1, hk_.1.2.1, hk_.1.2.2.1, hk_.1.2.2.2.1, hk_.1.2.2.2.2.1, hk_.1.2.2.2.2.2.1, hk_.1.2.2.2.2.2.2.1, hk_.1.2.2.2.2.2.2.2⟩)); have n8_ := Aside0.mk (Kd.R_mono (ok' := fun k_ => (w.heap.size ≤ k_) ∧ some k_ ≠ (.slice Ao33 t182.length co33 : Value).ownBlock ∧ some k_ ≠ (.slice Ao34 t185.length co34 : Value).ownBlock ∧ some k_ ≠ (.slice Ao39 t191.length co39 : Value).ownBlock ∧ some k_ ≠ (.slice Ao40 t194.length co40 : Value).ownBlock ∧ some k_ ≠ (.slice Ao46 t203.length co46 : Value).ownBlock ∧ some k_ ≠ (.slice Ao50 t209.length co50 : Value).ownBlock ∧ some k_ ≠ (.slice Ao51 t212.length co51 : Value).ownBlock ∧ some k_ ≠ (.slice Ao64 y229.length co64 : Value).ownBlock) (Kd.R_keptB (HO202.out) hkp (fun k_ hk_ hs_ => (hk_.2.2.2.2.2.2.2.2) hs_)) (fun k_ hk_ => ⟨hk_.1.1, hk_.1.2.1, hk_.1.2.2.1, hk_.1.2.2.2.1, hk_.1.2.2.2.2.1, hk_.1.2.2.2.2.2.1, hk_.1.2.2.2.2.2.2.1, hk_.1.2.2.2.2.2.2.2.1, hk_.1.2.2.2.2.2.2.2.2⟩)); have n9_ := Aside0.mk (Kd.R_mono (ok' := fun k_ => (w.heap.size ≤ k_) ∧ some k_ ≠ (.slice Ao33 t182.length co33 : Value).ownBlock ∧ some k_ ≠ (.slice Ao34 t185.length co34 : Value).ownBlock ∧ some k_ ≠ (.slice Ao39 t191.length co39 : Value).ownBlock ∧ some k_ ≠ (.slice Ao40 t194.length co40 : Value).ownBlock ∧ some k_ ≠ (.slice Ao45 t200.length co45 : Value).ownBlock ∧ some k_ ≠ (.slice Ao50 t209.length co50 : Value).ownBlock ∧ some k_ ≠ (.slice Ao51 t212.length co51 : Value).ownBlock ∧ some k_ ≠ (.slice Ao64 y229.length co64 : Value).ownBlock) (Kd.R_keptB (HO205.out) hkp (fun k_ hk_ hs_ => (hk_.2.2.2.2.2.2.2.2) hs_)) (fun k_ hk_ => ⟨hk_.1.1, hk_.1.2.1, hk_.1.2.2.1, hk_.1.2.2.2.1, hk_.1.2.2.2.2.1, hk_.1.2.2.2.2.2.1, hk_.1.2.2.2.2.2.2.1, hk_.1.2.2.2.2.2.2.2.1, hk_.1.2.2.2.2.2.2.2.2⟩)); have n10_ := Aside0.mk (Kd.V_mono (ok' := fun k_ => ((P0_ k_ ∨ P1_ k_) ∨ w.heap.size ≤ k_) ∧ some k_ ≠ (.slice Ao33 t182.length co33 : Value).ownBlock ∧ some k_ ≠ (.slice Ao34 t185.length co34 : Value).ownBlock ∧ some k_ ≠ (.slice Ao39 t191.length co39 : Value).ownBlock ∧ some k_ ≠ (.slice Ao40 t194.length co40 : Value).ownBlock ∧ some k_ ≠ (.slice Ao50 t209.length co50 : Value).ownBlock ∧ some k_ ≠ (.slice Ao51 t212.length co51 : Value).ownBlock ∧ some k_ ≠ (.slice Ao64 y229.length co64 : Value).ownBlock) (Kd.V_keptB (HO208.out) hkp (fun k_ hk_ hs_ => (hk_.2.2.2.2.2.2.2) hs_)) (fun k_ hk_ => ⟨hk_.1.1, hk_.1.2.1, hk_.1.2.2.1, hk_.1.2.2.2.1, hk_.1.2.2.2.2.1, hk_.1.2.2.2.2.2.1, hk_.1.2.2.2.2.2.2.1, hk_.1.2.2.2.2.2.2.2⟩)); have n11_ := Aside0.mk (Kd.R_mono (ok' := fun k_ => (w.heap.size ≤ k_) ∧ some k_ ≠ (.slice Ao33 t182.length co33 : Value).ownBlock ∧ some k_ ≠ (.slice Ao34 t185.length co34 : Value).ownBlock ∧ some k_ ≠ (.slice Ao39 t191.length co39 : Value).ownBlock ∧ some k_ ≠ (.slice Ao40 t194.length co40 : Value).ownBlock ∧ some k_ ≠ (.slice Ao45 t200.length co45 : Value).ownBlock ∧ some k_ ≠ (.slice Ao46 t203.length co46 : Value).ownBlock ∧ some k_ ≠ (.slice Ao51 t212.length co51 : Value).ownBlock ∧ some k_ ≠ (.slice Ao64 y229.length co64 : Value).ownBlock) (Kd.R_keptB (HO211.out) hkp (fun k_ hk_ hs_ => (hk_.2.2.2.2.2.2.2.2) hs_)) (fun k_ hk_ => ⟨hk_.1.1, hk_.1.2.1, hk_.1.2.2.1, hk_.1.2.2.2.1, hk_.1.2.2.2.2.1, hk_.1.2.2.2.2.2.1, hk_.1.2.2.2.2.2.2.1, hk_.1.2.2.2.2.2.2.2.1, hk_.1.2.2.2.2.2.2.2.2⟩)); have n12_ := Aside0.mk (Kd.R_mono (ok' := fun k_ => (w.heap.size ≤ k_) ∧ some k_ ≠ (.slice Ao33 t182.length co33 : Value).ownBlock ∧ some k_ ≠ (.slice Ao34 t185.length co34 : Value).ownBlock ∧ some k_ ≠ (.slice Ao39 t191.length co39 : Value).ownBlock ∧ some k_ ≠ (.slice Ao40 t194.length co40 : Value).ownBlock ∧ some k_ ≠ (.slice Ao45 t200.length co45 : Value).ownBlock ∧ some k_ ≠ (.slice Ao46 t203.length co46 : Value).ownBlock ∧ some k_ ≠ (.slice Ao50 t209.length co50 : Value).ownBlock ∧ some k_ ≠ (.slice Ao64 y229.length co64 : Value).ownBlock) (Kd.R_keptB (HO214.out) hkp (fun k_ hk_ hs_ => (hk_.2.2.2.2.2.2.2.2) hs_)) (fun k_ hk_ => ⟨hk_.1.1, hk_.1.2.1, hk_.1.2.2.1, hk_.1.2.2.2.1, hk_.1.2.2.2.2.1, hk_.1.2.2.2.2.2.1, hk_.1.2.2.2.2.2.2.1, hk_.1.2.2.2.2.2.2.2.1, hk_.1.2.2.2.2.2.2.2.2⟩)); have n13_ := Aside0.mk (Kd.V_mono (ok' := fun k_ => ((P0_ k_ ∨ P1_ k_) ∨ w.heap.size ≤ k_) ∧ some k_ ≠ (.slice Ao33 t182.length co33 : Value).ownBlock ∧ some k_ ≠ (.slice Ao34 t185.length co34 : Value).ownBlock ∧ some k_ ≠ (.slice Ao39 t191.length co39 : Value).ownBlock ∧ some k_ ≠ (.slice Ao40 t194.length co40 : Value).ownBlock ∧ some k_ ≠ (.slice Ao45 t200.length co45 : Value).ownBlock ∧ some k_ ≠ (.slice Ao46 t203.length co46 : Value).ownBlock ∧ some k_ ≠ (.slice Ao64 y229.length co64 : Value).ownBlock) (Kd.V_keptB (HO217.out) hkp (fun k_ hk_ hs_ => (hk_.2.2.2.2.2.2.2) hs_)) (fun k_ hk_ => ⟨hk_.1.1, hk_.1.2.1, hk_.1.2.2.1, hk_.1.2.2.2.1, hk_.1.2.2.2.2.1, hk_.1.2.2.2.2.2.1, hk_.1.2.2.2.2.2.2.1, hk_.1.2.2.2.2.2.2.2⟩)); have n14_ := Aside0.mk (Kd.V_mono (ok' := fun k_ => ((P0_ k_ ∨ P1_ k_) ∨ w.heap.size ≤ k_) ∧ some k_ ≠ (.slice Ao33 t182.length co33 : Value).ownBlock ∧ some k_ ≠ (.slice Ao34 t185.length co34 : Value).ownBlock ∧ some k_ ≠ (.slice Ao39 t191.length co39 : Value).ownBlock ∧ some k_ ≠ (.slice Ao40 t194.length co40 : Value).ownBlock ∧ some k_ ≠ (.slice Ao64 y229.length co64 : Value).ownBlock) (Kd.V_keptB (HO220.out) hkp (fun k_ hk_ hs_ => (hk_.2.2.2.2.2) hs_)) (fun k_ hk_ => ⟨hk_.1.1, hk_.1.2.1, hk_.1.2.2.1, hk_.1.2.2.2.1, hk_.1.2.2.2.2.1, hk_.1.2.2.2.2.2⟩)); have n15_ := Aside0.mk (Kd.V_mono (ok' := fun k_ => ((P0_ k_ ∨ P1_ k_) ∨ w.heap.size ≤ k_) ∧ some k_ ≠ (.slice Ao39 t191.length co39 : Value).ownBlock ∧ some k_ ≠ (.slice Ao40 t194.length co40 : Value).ownBlock ∧ some k_ ≠ (.slice Ao64 y229.length co64 : Value).ownBlock) (Kd.V_keptB (HO223.out) hkp (fun k_ hk_ hs_ => (hk_.2.2.2) hs_)) (fun k_ hk_ => ⟨hk_.1.1, hk_.1.2.1, hk_.1.2.2.1, hk_.1.2.2.2⟩)); have n16_ := Aside0.mk (Kd.V_mono (ok' := fun k_ => ((P0_ k_ ∨ P1_ k_) ∨ w.heap.size ≤ k_) ∧ some k_ ≠ (.slice Ao64 y229.length co64 : Value).ownBlock) (Kd.V_keptB (HO227.out) hkp (fun k_ hk_ hs_ => (hk_.2) hs_)) (fun k_ hk_ => ⟨hk_.1.1, hk_.1.2⟩)); have n17_ := Aside0.mk (Kd.R_reok rfl hy0 (fun k_ e_ => HO231.out.1 k_ e_)); have n18_ := Aside0.mk (hb); clear HO0; clear HO1; clear HO184; clear HO187; clear HO190; clear HO193; clear HO196; clear HO199; clear HO202; clear HO205; clear HO208; clear HO211; clear HO214; clear HO217; clear HO220; clear HO223; clear HO227; clear HO231; clear HB; have HO0 := n0_; have HO1 := n1_; have HO184 := n2_; have HO187 := n3_; have HO190 := n4_; have HO193 := n5_; have HO196 := n6_; have HO199 := n7_; have HO202 := n8_; have HO205 := n9_; have HO208 := n10_; have HO211 := n11_; have HO214 := n12_; have HO217 := n13_; have HO220 := n14_; have HO223 := n15_; have HO227 := n16_; have HO231 := n17_; have HB := n18_; clear n0_ n1_ n2_ n3_ n4_ n5_ n6_ n7_ n8_ n9_ n10_ n11_ n12_ n13_ n14_ n15_ n16_ n17_ n18_; (try clear hb); (try clear hkp); (try clear hy0)) | ((with_reducible refine gate_callee (f := 18) rfl ?_); refine goesL_ (some 94) rfl rfl Try.func18 (by kernel_rfl) rfl #[.slice Ao64 t234.length co64] rfl (by (try simp only [List.map_toArray, List.map_cons, List.map_nil]); first | done | (rw [show t234.length = y229.length from (Kd.R_reads' HO231.out).1.symm] <;> rfl) | rfl | (simp only [List.length_drop, List.length_take]; rfl)) ?_; (with_reducible refine (nat_Trim.calls k _ _ t234 t235 _ ?side1 ?side2 A29.out).mono ?_); (case side1 => repeat (first | exact (Kd.R_reads' HO231.out).2.2 | (with_reducible refine Kd.C_alloc ?_ _) | (with_reducible refine Kd.C_drewN ?_ _) | (with_reducible refine Kd.C_drew ?_))); (case side2 => rw [show t234.length = y229.length from (Kd.R_reads' HO231.out).1.symm]; exact (Kd.R_reads' HO231.out).2.1); rintro e w69 ⟨v236, rfl, ho0, hb⟩; refine ⟨_, rfl, ?_⟩; have n0_ := Aside0.mk (Kd.V_elder' (by (with_reducible repeat (first | apply Kd.V_alloc | apply Kd.V_drewN | apply Kd.V_drew)); exact HO0.out) (Kd.R_base ho0) hb); have n1_ := Aside0.mk (Kd.V_elder' (by (with_reducible repeat (first | apply Kd.V_alloc | apply Kd.V_drewN | apply Kd.V_drew)); exact HO1.out) (Kd.R_base ho0) hb); have n2_ := Aside0.mk (Kd.R_elder' (by (with_reducible repeat (first | apply Kd.R_alloc | apply Kd.R_drewN | apply Kd.R_drew)); exact HO184.out) (Kd.R_base ho0) hb); have n3_ := Aside0.mk (Kd.R_elder' (by (with_reducible repeat (first | apply Kd.R_alloc | apply Kd.R_drewN | apply Kd.R_drew)); exact HO187.out) (Kd.R_base ho0) hb); have n4_ := Aside0.mk (Kd.V_elder' (by (with_reducible repeat (first | apply Kd.V_alloc | apply Kd.V_drewN | apply Kd.V_drew)); exact HO190.out) (Kd.R_base ho0) hb); have n5_ := Aside0.mk (Kd.R_elder' (by (with_reducible repeat (first | apply Kd.R_alloc | apply Kd.R_drewN | apply Kd.R_drew)); exact HO193.out) (Kd.R_base ho0) hb); have n6_ := Aside0.mk (Kd.R_elder' (by (with_reducible repeat (first | apply Kd.R_alloc | apply Kd.R_drewN | apply Kd.R_drew)); exact HO196.out) (Kd.R_base ho0) hb); have n7_ := Aside0.mk (Kd.V_elder' (by (with_reducible repeat (first | apply Kd.V_alloc | apply Kd.V_drewN | apply Kd.V_drew)); exact HO199.out) (Kd.R_base ho0) hb); have n8_ := Aside0.mk (Kd.R_elder' (by (with_reducible repeat (first | apply Kd.R_alloc | apply Kd.R_drewN | apply Kd.R_drew)); exact HO202.out) (Kd.R_base ho0) hb); have n9_ := Aside0.mk (Kd.R_elder' (by (with_reducible repeat (first | apply Kd.R_alloc | apply Kd.R_drewN | apply Kd.R_drew)); exact HO205.out) (Kd.R_base ho0) hb); have n10_ := Aside0.mk (Kd.V_elder' (by (with_reducible repeat (first | apply Kd.V_alloc | apply Kd.V_drewN | apply Kd.V_drew)); exact HO208.out) (Kd.R_base ho0) hb); have n11_ := Aside0.mk (Kd.R_elder' (by (with_reducible repeat (first | apply Kd.R_alloc | apply Kd.R_drewN | apply Kd.R_drew)); exact HO211.out) (Kd.R_base ho0) hb); have n12_ := Aside0.mk (Kd.R_elder' (by (with_reducible repeat (first | apply Kd.R_alloc | apply Kd.R_drewN | apply Kd.R_drew)); exact HO214.out) (Kd.R_base ho0) hb); have n13_ := Aside0.mk (Kd.V_elder' (by (with_reducible repeat (first | apply Kd.V_alloc | apply Kd.V_drewN | apply Kd.V_drew)); exact HO217.out) (Kd.R_base ho0) hb); have n14_ := Aside0.mk (Kd.V_elder' (by (with_reducible repeat (first | apply Kd.V_alloc | apply Kd.V_drewN | apply Kd.V_drew)); exact HO220.out) (Kd.R_base ho0) hb); have n15_ := Aside0.mk (Kd.V_elder' (by (with_reducible repeat (first | apply Kd.V_alloc | apply Kd.V_drewN | apply Kd.V_drew)); exact HO223.out) (Kd.R_base ho0) hb); have n16_ := Aside0.mk (Kd.V_elder' (by (with_reducible repeat (first | apply Kd.V_alloc | apply Kd.V_drewN | apply Kd.V_drew)); exact HO227.out) (Kd.R_base ho0) hb); have n17_ := Aside0.mk (Kd.R_elder' (by (with_reducible repeat (first | apply Kd.R_alloc | apply Kd.R_drewN | apply Kd.R_drew)); exact HO231.out) (Kd.R_base ho0) hb); have n18_ := Aside0.mk (Kd.R_lower (Kd.R_new' (Kd.R_new' (Kd.R_new' (Kd.R_new' (Kd.R_new' (Kd.R_new' (Kd.R_new' (Kd.R_new' (Kd.R_new' (Kd.R_newM (M := fun k_ => (w.heap.size ≤ k_)) ho0 (below_size (by repeat (first | (with_reducible first | exact HB.out | apply below_alloc | apply pw_below_drewN | apply below_drew1) | exact HB.out))) (fun k_ h_ => h_)) (Kd.R_lt (by (with_reducible repeat (first | apply Kd.R_alloc | apply Kd.R_drewN | apply Kd.R_drew)); exact HO184.out))) (Kd.R_lt (by (with_reducible repeat (first | apply Kd.R_alloc | apply Kd.R_drewN | apply Kd.R_drew)); exact HO187.out))) (Kd.R_lt (by (with_reducible repeat (first | apply Kd.R_alloc | apply Kd.R_drewN | apply Kd.R_drew)); exact HO193.out))) (Kd.R_lt (by (with_reducible repeat (first | apply Kd.R_alloc | apply Kd.R_drewN | apply Kd.R_drew)); exact HO196.out))) (Kd.R_lt (by (with_reducible repeat (first | apply Kd.R_alloc | apply Kd.R_drewN | apply Kd.R_drew)); exact HO202.out))) (Kd.R_lt (by (with_reducible repeat (first | apply Kd.R_alloc | apply Kd.R_drewN | apply Kd.R_drew)); exact HO205.out))) (Kd.R_lt (by (with_reducible repeat (first | apply Kd.R_alloc | apply Kd.R_drewN | apply Kd.R_drew)); exact HO211.out))) (Kd.R_lt (by (with_reducible repeat (first | apply Kd.R_alloc | apply Kd.R_drewN | apply Kd.R_drew)); exact HO214.out))) (Kd.R_lt (by (with_reducible repeat (first | apply Kd.R_alloc | apply Kd.R_drewN | apply Kd.R_drew)); exact HO231.out))) (below_size (by repeat (first | (with_reducible first | exact HB.out | apply below_alloc | apply pw_below_drewN | apply below_drew1) | exact HB.out)))); have n19_ := Aside0.mk (below_step (by repeat (first | (with_reducible first | exact HB.out | apply below_alloc | apply pw_below_drewN | apply below_drew1) | exact HB.out)) hb); clear HO0; clear HO1; clear HO184; clear HO187; clear HO190; clear HO193; clear HO196; clear HO199; clear HO202; clear HO205; clear HO208; clear HO211; clear HO214; clear HO217; clear HO220; clear HO223; clear HO227; clear HO231; clear HB; have HO0 := n0_; have HO1 := n1_; have HO184 := n2_; have HO187 := n3_; have HO190 := n4_; have HO193 := n5_; have HO196 := n6_; have HO199 := n7_; have HO202 := n8_; have HO205 := n9_; have HO208 := n10_; have HO211 := n11_; have HO214 := n12_; have HO217 := n13_; have HO220 := n14_; have HO223 := n15_; have HO227 := n16_; have HO231 := n17_; have HO237 := n18_; have HB := n19_; clear n0_ n1_ n2_ n3_ n4_ n5_ n6_ n7_ n8_ n9_ n10_ n11_ n12_ n13_ n14_ n15_ n16_ n17_ n18_ n19_; (try clear hb); (try clear hb2); (try clear hk); (try clear hi); (try clear ho0)))
        go_ret
        exact ⟨_, by first | rfl | (simp [errW_none, errW_some] <;> rfl) | (simp only [← hji3, ← hji4, ← hji23]; first | rfl | (simp [errW_none, errW_some] <;> rfl)) | (simp [*, errW_none, errW_some] <;> rfl), Kd.V_mono (Kd.R_V (by (with_reducible repeat (first | apply Kd.R_alloc | apply Kd.R_drewN | apply Kd.R_drew)); exact Kd.R_mono HO237.out (fun _ hk => hk.1.1.1.1.1.1.1.1.1.1))) (fun k_ hk => by first | exact ⟨(.inr (hk.1)), hk.2⟩ | exact (.inr (hk))), by repeat (first | (with_reducible first | exact HB.out | apply below_alloc | apply pw_below_drewN | apply below_drew1) | exact HB.out)⟩
      · rw [if_neg c25] at H
        exact absurd H (by simp)
    · rw [if_neg c24] at H
      exact absurd H (by simp)

end Go.Proofs.Ytpodpfppbkjbcaa.P
