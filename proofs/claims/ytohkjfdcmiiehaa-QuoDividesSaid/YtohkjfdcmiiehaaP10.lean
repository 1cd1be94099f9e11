/- What the Go functions of these names come to, as plain Lean functions, and the walks that show it. Written for this claim by a turned copy of the print program; Lean checks it. -/
import Derived.Test.YtohkjfdcmiiehaaP0
import Derived.Test.YtohkjfdcmiiehaaP1
import Derived.Test.YtohkjfdcmiiehaaP2
import Derived.Test.YtohkjfdcmiiehaaP8
import Derived.Test.YtohkjfdcmiiehaaP9
namespace Go.Proofs.Ytohkjfdcmiiehaa.P
open Go.RowKit Go.Proofs.YtohkjfdcmiiehaaW.PrintWords Go.Proofs.YtohkjfdcmiiehaaW.PrintLast Go.Proofs.YtohkjfdcmiiehaaW.PrintMore
attribute [local go_sem] max2_int min2_int max_two min_two max_three min_three max_four min_four   -- for this text's walks alone
set_option linter.unusedVariables false
set_option linter.unusedSimpArgs false

/-! ### quo_long: function 28 -/
mutual
def quo_long.l0 : Nat → List Int → List Int → Int → Int → List Int → Int → Option (List Int × List Int × Bool)
  | 0, _, _, _, _, _, _ => none
  | k + 1, x1, x4, x7, x8, x9, x12 => if x12 ≥ 0 then (if 0 ≤ (wrap64 (x12 + x8)) then (if (wrap64 (x12 + x8)) < (x9.length : Int) then (if 0 ≤ (wrap64 ((wrap64 (x12 + x8)) - 1)) then (if (wrap64 ((wrap64 (x12 + x8)) - 1)) < (x9.length : Int) then (if 0 ≤ (wrap64 (x8 - 1)) then (if (wrap64 (x8 - 1)) < (x1.length : Int) then (if (IntKind.u64.wrap (rd x1 (wrap64 (x8 - 1)))) = 0 then (none) else (quo_long.l1 k x1 x4 x7 x8 x9 x12 (IntKind.u64.wrap (Int.tdiv (Go.bits .or .u64 (IntKind.u64.wrap ((IntKind.u64.wrap (rd x9 (wrap64 (x12 + x8)))) * 4294967296)) (IntKind.u64.wrap (rd x9 (wrap64 ((wrap64 (x12 + x8)) - 1))))) (IntKind.u64.wrap (rd x1 (wrap64 (x8 - 1)))))) (Int.tmod (Go.bits .or .u64 (IntKind.u64.wrap ((IntKind.u64.wrap (rd x9 (wrap64 (x12 + x8)))) * 4294967296)) (IntKind.u64.wrap (rd x9 (wrap64 ((wrap64 (x12 + x8)) - 1))))) (IntKind.u64.wrap (rd x1 (wrap64 (x8 - 1))))))) else (none)) else (none)) else (none)) else (none)) else (none)) else (none)) else ((nat_Trim.f k x4).bind fun t209 => (if 0 ≤ x8 then (if x8 ≤ (x9.length : Int) then ((nat_Shr.f k (x9.take (x8 : Int).toNat) x7).bind fun t216 => (some (t209, t216, true))) else (none)) else (none)))
def quo_long.j3 : Nat → List Int → List Int → Int → Int → List Int → Int → Int → Option (List Int × List Int × Bool)
  | 0, _, _, _, _, _, _, _ => none
  | k + 1, x1, x4, x7, x8, x9, x12, x14 => (quo_take_at.f k x9 x12 (wrap64 ((wrap64 (x12 + x8)) + 1)) x1 x14).bind fun bt226 => (if bt226.1 = true then ((quo_give_at.f k bt226.2 x12 (wrap64 ((wrap64 (x12 + x8)) + 1)) x1).bind fun t228 => (if 0 ≤ x12 then (if x12 < (x4.length : Int) then (quo_long.l0 k x1 (x4.set (x12 : Int).toNat ((IntKind.u64.wrap (x14 - 1)) % 4294967296)) x7 x8 t228 (wrap64 (x12 - 1))) else (none)) else (none))) else (if 0 ≤ x12 then (if x12 < (x4.length : Int) then (quo_long.l0 k x1 (x4.set (x12 : Int).toNat ((x14) % 4294967296)) x7 x8 bt226.2 (wrap64 (x12 - 1))) else (none)) else (none)))
def quo_long.l1 : Nat → List Int → List Int → Int → Int → List Int → Int → Int → Int → Option (List Int × List Int × Bool)
  | 0, _, _, _, _, _, _, _, _ => none
  | k + 1, x1, x4, x7, x8, x9, x12, x14, x15 => if x14 ≥ 4294967296 then (quo_long.j2 k x1 x4 x7 x8 x9 x12 x14 x15 true) else (if 0 ≤ (wrap64 (x8 - 2)) then (if (wrap64 (x8 - 2)) < (x1.length : Int) then (if 0 ≤ (wrap64 ((wrap64 (x12 + x8)) - 2)) then (if (wrap64 ((wrap64 (x12 + x8)) - 2)) < (x9.length : Int) then (quo_long.j2 k x1 x4 x7 x8 x9 x12 x14 x15 (decide ((IntKind.u64.wrap (x14 * (IntKind.u64.wrap (rd x1 (wrap64 (x8 - 2)))))) > (Go.bits .or .u64 (IntKind.u64.wrap (x15 * 4294967296)) (IntKind.u64.wrap (rd x9 (wrap64 ((wrap64 (x12 + x8)) - 2)))))))) else (none)) else (none)) else (none)) else (none))
def quo_long.j2 : Nat → List Int → List Int → Int → Int → List Int → Int → Int → Int → Bool → Option (List Int × List Int × Bool)
  | 0, _, _, _, _, _, _, _, _, _ => none
  | k + 1, x1, x4, x7, x8, x9, x12, x14, x15, x114 => if x114 = true then (if 0 ≤ (wrap64 (x8 - 1)) then (if (wrap64 (x8 - 1)) < (x1.length : Int) then (if (IntKind.u64.wrap (x15 + (IntKind.u64.wrap (rd x1 (wrap64 (x8 - 1)))))) ≥ 4294967296 then (quo_long.j3 k x1 x4 x7 x8 x9 x12 (IntKind.u64.wrap (x14 - 1))) else (quo_long.l1 k x1 x4 x7 x8 x9 x12 (IntKind.u64.wrap (x14 - 1)) (IntKind.u64.wrap (x15 + (IntKind.u64.wrap (rd x1 (wrap64 (x8 - 1)))))))) else (none)) else (none)) else (quo_long.j3 k x1 x4 x7 x8 x9 x12 x14)
end
def quo_long.f (k : Nat) (l0 : List Int) (l1 : List Int) : Option (List Int × List Int × Bool) := if 0 ≤ (wrap64 ((l1.length : Int) - 1)) then (if (wrap64 ((l1.length : Int) - 1)) < (l1.length : Int) then ((bits_LeadingZeros32.f (rd l1 (wrap64 ((l1.length : Int) - 1)))).bind fun t192 => ((nat_Shl.f k l1 t192).bind fun bt193 => (if 0 ≤ (wrap64 ((l0.length : Int) + 1)) then (if (wrap64 ((l0.length : Int) + 1) : Int).toNat ≤ 70368744177664 then ((nat_Shl.f k l0 t192).bind fun bt200 => ((own_copy.f (List.replicate (wrap64 ((l0.length : Int) + 1) : Int).toNat 0) bt200.1).bind fun bt204 => (if 0 ≤ (wrap64 ((wrap64 ((l0.length : Int) - (bt193.1.length : Int))) + 1)) then (if (wrap64 ((wrap64 ((l0.length : Int) - (bt193.1.length : Int))) + 1) : Int).toNat ≤ 70368744177664 then (quo_long.l0 k bt193.1 (List.replicate (wrap64 ((wrap64 ((l0.length : Int) - (bt193.1.length : Int))) + 1) : Int).toNat 0) t192 (bt193.1.length : Int) bt204.2 (wrap64 ((l0.length : Int) - (bt193.1.length : Int)))) else (none)) else (none)))) else (none)) else (none)))) else (none)) else (none)
theorem quo_long.mono_l : ∀ k, (∀ y0 y1 y2 y3 y4 y5, LeO (quo_long.l0 k y0 y1 y2 y3 y4 y5) (quo_long.l0 (k + 1) y0 y1 y2 y3 y4 y5)) ∧ (∀ y0 y1 y2 y3 y4 y5 y6, LeO (quo_long.j3 k y0 y1 y2 y3 y4 y5 y6) (quo_long.j3 (k + 1) y0 y1 y2 y3 y4 y5 y6)) ∧ (∀ y0 y1 y2 y3 y4 y5 y6 y7, LeO (quo_long.l1 k y0 y1 y2 y3 y4 y5 y6 y7) (quo_long.l1 (k + 1) y0 y1 y2 y3 y4 y5 y6 y7)) ∧ (∀ y0 y1 y2 y3 y4 y5 y6 y7 y8, LeO (quo_long.j2 k y0 y1 y2 y3 y4 y5 y6 y7 y8) (quo_long.j2 (k + 1) y0 y1 y2 y3 y4 y5 y6 y7 y8))
  | 0 => ⟨fun _ _ _ _ _ _ r h => by simp [quo_long.l0] at h, fun _ _ _ _ _ _ _ r h => by simp [quo_long.j3] at h, fun _ _ _ _ _ _ _ _ r h => by simp [quo_long.l1] at h, fun _ _ _ _ _ _ _ _ _ r h => by simp [quo_long.j2] at h⟩
  | k + 1 => by
    obtain ⟨ih0, ih1, ih2, ih3⟩ := quo_long.mono_l k
    refine ⟨?_, ?_, ?_, ?_⟩
    · intro y0 y1 y2 y3 y4 y5
      unfold quo_long.l0
      repeat' first
      | (with_reducible exact ih0 _ _ _ _ _ _)
      | (with_reducible exact ih1 _ _ _ _ _ _ _)
      | (with_reducible exact ih2 _ _ _ _ _ _ _ _)
      | (with_reducible exact ih3 _ _ _ _ _ _ _ _ _)
      | (with_reducible exact nat_Shl.mono _ _ _)
      | (with_reducible exact nat_Shr.mono _ _ _)
      | (with_reducible exact nat_Trim.mono _ _)
      | (with_reducible exact quo_give_at.mono _ _ _ _ _)
      | (with_reducible exact quo_take_at.mono _ _ _ _ _ _)
      | (with_reducible exact LeO.refl _)
      | (with_reducible exact LeO.none _)
      | (with_reducible refine LeO.ite ?_ ?_)
      | (with_reducible refine LeO.bind ?_ (fun _ => ?_))
      | exact ih0 _ _ _ _ _ _
      | exact ih1 _ _ _ _ _ _ _
      | exact ih2 _ _ _ _ _ _ _ _
      | exact ih3 _ _ _ _ _ _ _ _ _
      | exact nat_Shl.mono _ _ _
      | exact nat_Shr.mono _ _ _
      | exact nat_Trim.mono _ _
      | exact quo_give_at.mono _ _ _ _ _
      | exact quo_take_at.mono _ _ _ _ _ _
      | exact LeO.none _
      | refine LeO.ite ?_ ?_
      | refine LeO.bind ?_ (fun _ => ?_)
    · intro y0 y1 y2 y3 y4 y5 y6
      unfold quo_long.j3
      repeat' first
      | (with_reducible exact ih0 _ _ _ _ _ _)
      | (with_reducible exact ih1 _ _ _ _ _ _ _)
      | (with_reducible exact ih2 _ _ _ _ _ _ _ _)
      | (with_reducible exact ih3 _ _ _ _ _ _ _ _ _)
      | (with_reducible exact nat_Shl.mono _ _ _)
      | (with_reducible exact nat_Shr.mono _ _ _)
      | (with_reducible exact nat_Trim.mono _ _)
      | (with_reducible exact quo_give_at.mono _ _ _ _ _)
      | (with_reducible exact quo_take_at.mono _ _ _ _ _ _)
      | (with_reducible exact LeO.refl _)
      | (with_reducible exact LeO.none _)
      | (with_reducible refine LeO.ite ?_ ?_)
      | (with_reducible refine LeO.bind ?_ (fun _ => ?_))
      | exact ih0 _ _ _ _ _ _
      | exact ih1 _ _ _ _ _ _ _
      | exact ih2 _ _ _ _ _ _ _ _
      | exact ih3 _ _ _ _ _ _ _ _ _
      | exact nat_Shl.mono _ _ _
      | exact nat_Shr.mono _ _ _
      | exact nat_Trim.mono _ _
      | exact quo_give_at.mono _ _ _ _ _
      | exact quo_take_at.mono _ _ _ _ _ _
      | exact LeO.none _
      | refine LeO.ite ?_ ?_
      | refine LeO.bind ?_ (fun _ => ?_)
    · intro y0 y1 y2 y3 y4 y5 y6 y7
      unfold quo_long.l1
      repeat' first
      | (with_reducible exact ih0 _ _ _ _ _ _)
      | (with_reducible exact ih1 _ _ _ _ _ _ _)
      | (with_reducible exact ih2 _ _ _ _ _ _ _ _)
      | (with_reducible exact ih3 _ _ _ _ _ _ _ _ _)
      | (with_reducible exact nat_Shl.mono _ _ _)
      | (with_reducible exact nat_Shr.mono _ _ _)
      | (with_reducible exact nat_Trim.mono _ _)
      | (with_reducible exact quo_give_at.mono _ _ _ _ _)
      | (with_reducible exact quo_take_at.mono _ _ _ _ _ _)
      | (with_reducible exact LeO.refl _)
      | (with_reducible exact LeO.none _)
      | (with_reducible refine LeO.ite ?_ ?_)
      | (with_reducible refine LeO.bind ?_ (fun _ => ?_))
      | exact ih0 _ _ _ _ _ _
      | exact ih1 _ _ _ _ _ _ _
      | exact ih2 _ _ _ _ _ _ _ _
      | exact ih3 _ _ _ _ _ _ _ _ _
      | exact nat_Shl.mono _ _ _
      | exact nat_Shr.mono _ _ _
      | exact nat_Trim.mono _ _
      | exact quo_give_at.mono _ _ _ _ _
      | exact quo_take_at.mono _ _ _ _ _ _
      | exact LeO.none _
      | refine LeO.ite ?_ ?_
      | refine LeO.bind ?_ (fun _ => ?_)
    · intro y0 y1 y2 y3 y4 y5 y6 y7 y8
      unfold quo_long.j2
      repeat' first
      | (with_reducible exact ih0 _ _ _ _ _ _)
      | (with_reducible exact ih1 _ _ _ _ _ _ _)
      | (with_reducible exact ih2 _ _ _ _ _ _ _ _)
      | (with_reducible exact ih3 _ _ _ _ _ _ _ _ _)
      | (with_reducible exact nat_Shl.mono _ _ _)
      | (with_reducible exact nat_Shr.mono _ _ _)
      | (with_reducible exact nat_Trim.mono _ _)
      | (with_reducible exact quo_give_at.mono _ _ _ _ _)
      | (with_reducible exact quo_take_at.mono _ _ _ _ _ _)
      | (with_reducible exact LeO.refl _)
      | (with_reducible exact LeO.none _)
      | (with_reducible refine LeO.ite ?_ ?_)
      | (with_reducible refine LeO.bind ?_ (fun _ => ?_))
      | exact ih0 _ _ _ _ _ _
      | exact ih1 _ _ _ _ _ _ _
      | exact ih2 _ _ _ _ _ _ _ _
      | exact ih3 _ _ _ _ _ _ _ _ _
      | exact nat_Shl.mono _ _ _
      | exact nat_Shr.mono _ _ _
      | exact nat_Trim.mono _ _
      | exact quo_give_at.mono _ _ _ _ _
      | exact quo_take_at.mono _ _ _ _ _ _
      | exact LeO.none _
      | refine LeO.ite ?_ ?_
      | refine LeO.bind ?_ (fun _ => ?_)
theorem quo_long.mono : ∀ a0 a1 k, LeO (quo_long.f k a0 a1) (quo_long.f (k + 1) a0 a1) := by
  intro a0 a1 k
  obtain ⟨ih0, ih1, ih2, ih3⟩ := quo_long.mono_l k
  unfold quo_long.f
  repeat' first
      | (with_reducible exact ih0 _ _ _ _ _ _)
      | (with_reducible exact ih1 _ _ _ _ _ _ _)
      | (with_reducible exact ih2 _ _ _ _ _ _ _ _)
      | (with_reducible exact ih3 _ _ _ _ _ _ _ _ _)
      | (with_reducible exact nat_Shl.mono _ _ _)
      | (with_reducible exact nat_Shr.mono _ _ _)
      | (with_reducible exact nat_Trim.mono _ _)
      | (with_reducible exact quo_give_at.mono _ _ _ _ _)
      | (with_reducible exact quo_take_at.mono _ _ _ _ _ _)
      | (with_reducible exact LeO.refl _)
      | (with_reducible exact LeO.none _)
      | (with_reducible refine LeO.ite ?_ ?_)
      | (with_reducible refine LeO.bind ?_ (fun _ => ?_))
      | exact ih0 _ _ _ _ _ _
      | exact ih1 _ _ _ _ _ _ _
      | exact ih2 _ _ _ _ _ _ _ _
      | exact ih3 _ _ _ _ _ _ _ _ _
      | exact nat_Shl.mono _ _ _
      | exact nat_Shr.mono _ _ _
      | exact nat_Trim.mono _ _
      | exact quo_give_at.mono _ _ _ _ _
      | exact quo_take_at.mono _ _ _ _ _ _
      | exact LeO.none _
      | refine LeO.ite ?_ ?_
      | refine LeO.bind ?_ (fun _ => ?_)
def quo_long.T11 : Bool × List (List Nat × List Nat) := (true, [([], []), ([], []), ([], []), ([1, 2], [1, 2]), ([0, 3], [0, 3]), ([4], [4]), ([5], [5]), ([6], [6]), ([], []), ([], []), ([], []), ([9, 10], [9, 10]), ([11], [11]), ([8, 12], [8, 12]), ([13], [13]), ([14], [14]), ([7, 15], [7, 15]), ([16, 0, 1, 2, 3, 4, 5, 6, 7, 8, 9, 10, 11, 12, 13, 14, 15, 16], [16])])
def quo_long.B11 : List Nat := [0, 0, 0, 6, 15, 31, 63, 127, 0, 0, 0, 1536, 3584, 7936, 16128, 32512, 65535, 131071]
theorem quo_long.tab11 : rtab .any (opsOf Try.f28 11) = quo_long.T11 := by kernel_rfl
theorem quo_long.bits11 : waitsOk quo_long.T11.2 quo_long.B11 = true := by kernel_rfl
def quo_long.T12 : Bool × List (List Nat × List Nat) := (true, [([], []), ([], []), ([], []), ([2], [2]), ([1, 3], [1, 3]), ([4], [4]), ([5], [5]), ([0, 6], [0, 6]), ([], []), ([], []), ([], []), ([10], [10]), ([9, 11], [9, 11]), ([12], [12]), ([13], [13]), ([8, 14], [8, 14]), ([7, 0, 1, 2, 3, 4, 5, 6, 7], [7]), ([15, 16, 0, 1, 2, 3, 4, 5, 6, 7, 8, 9, 10, 11, 12, 13, 14, 15, 16], [15])])
def quo_long.B12 : List Nat := [0, 0, 0, 4, 14, 30, 62, 127, 0, 0, 0, 1024, 3584, 7680, 15872, 32512, 255, 131071]
theorem quo_long.tab12 : rtab .any (opsOf Try.f28 12) = quo_long.T12 := by kernel_rfl
theorem quo_long.bits12 : waitsOk quo_long.T12.2 quo_long.B12 = true := by kernel_rfl
def quo_long.T13 : Bool × List (List Nat × List Nat) := (true, [([], []), ([0], [0]), ([1], [1]), ([2], [2]), ([2], [2]), ([2], [2]), ([5, 2], [2, 5]), ([4, 6, 2], [2, 4, 6]), ([7, 2], [2, 7]), ([8, 2], [2, 8]), ([3, 9, 2], [2, 3, 9]), ([2], [2]), ([11, 2], [2, 11]), ([2], [2]), ([2], [2]), ([2], [2]), ([14, 15, 2], [2, 14, 15]), ([16, 2], [2, 16]), ([13, 17, 2], [2, 13, 17]), ([18, 2], [2, 18]), ([19, 2], [2, 19]), ([12, 20, 2], [2, 12, 20]), ([10, 21, 2], [2, 10, 21]), ([2, 22], [2, 22])])
def quo_long.B13 : List Nat := [0, 1, 3, 7, 7, 7, 39, 119, 247, 503, 1023, 7, 2055, 7, 7, 7, 49159, 114695, 253959, 516103, 1040391, 2095111, 4194303, 8388607]
theorem quo_long.tab13 : rtab .any (opsOf Try.f28 13) = quo_long.T13 := by kernel_rfl
theorem quo_long.bits13 : waitsOk quo_long.T13.2 quo_long.B13 = true := by kernel_rfl
def quo_long.T21 : Bool × List (List Nat × List Nat) := (true, [([], []), ([0], [0]), ([], []), ([], []), ([2, 3], [2, 3]), ([], []), ([4, 5, 1], [4, 5]), ([1, 6, 0, 1], [0, 1]), ([6, 7, 0, 1, 2, 3, 4, 5, 6, 7], [6]), ([8, 0, 1, 2, 3, 4, 5, 6, 7, 8], [])])
def quo_long.B21 : List Nat := [0, 1, 0, 0, 12, 0, 63, 127, 255, 511]
theorem quo_long.tab21 : rtab .any (opsOf Try.f28 21) = quo_long.T21 := by kernel_rfl
theorem quo_long.bits21 : waitsOk quo_long.T21.2 quo_long.B21 = true := by kernel_rfl
set_option maxHeartbeats 8000000 in
set_option maxRecDepth 100000 in
theorem quo_long.calls (k : Nat) (P0_ : Nat → Prop) (A0 : Option Addr) (c0 : Nat) (l0 : List Int) (P1_ : Nat → Prop) (A1 : Option Addr) (c1 : Nat) (l1 : List Int) (r1 : List Int) (r2 : List Int) (r3 : Bool) (w : World) (hs0 : Kd.V (Kd.int .u32) 37 w w.heap.size (fun k_ => P0_ k_) (.slice A0 l0.length c0) l0) (hs1 : Kd.V (Kd.int .u32) 37 w w.heap.size (fun k_ => P1_ k_) (.slice A1 l1.length c1) l1) (h : quo_long.f k l0 l1 = some (r1, r2, r3)) :
    Calls Try.prog 28 #[.slice A0 l0.length c0, .slice A1 l1.length c1] w fun e w' => ∃ v0_ v1_ : Value, e = .returned (.tuple #[v0_, v1_, .bool r3]) ∧ Kd.R (Kd.int .u32) 37 w' w.heap.size (fun k_ => (w.heap.size ≤ k_)) v0_ r1 ∧ Kd.V (Kd.int .u32) 37 w' w.heap.size (fun k_ => ((P0_ k_ ∨ P1_ k_) ∨ w.heap.size ≤ k_) ∧ some k_ ≠ (v0_ : Value).ownBlock) v1_ r2 ∧ Below w.heap.size w w' := by
  have HO0 := A0_ (show Kd.V (Kd.int .u32) 37 w w.heap.size (fun k_ => ((P0_ k_ ∨ P1_ k_) ∨ w.heap.size ≤ k_)) (.slice A0 l0.length c0) l0 from Kd.V_mono hs0 (fun k_ hk => .inl (.inl hk)))
  have HO1 := A0_ (show Kd.V (Kd.int .u32) 37 w w.heap.size (fun k_ => ((P0_ k_ ∨ P1_ k_) ∨ w.heap.size ≤ k_)) (.slice A1 l1.length c1) l1 from Kd.V_mono hs1 (fun k_ hk => .inl (.inr hk)))
  have HB := A0_ (Below.refl w.heap.size w)
  have H : (if 0 ≤ (wrap64 ((l1.length : Int) - 1)) then (if (wrap64 ((l1.length : Int) - 1)) < (l1.length : Int) then ((bits_LeadingZeros32.f (rd l1 (wrap64 ((l1.length : Int) - 1)))).bind fun t192 => ((nat_Shl.f k l1 t192).bind fun bt193 => (if 0 ≤ (wrap64 ((l0.length : Int) + 1)) then (if (wrap64 ((l0.length : Int) + 1) : Int).toNat ≤ 70368744177664 then ((nat_Shl.f k l0 t192).bind fun bt200 => ((own_copy.f (List.replicate (wrap64 ((l0.length : Int) + 1) : Int).toNat 0) bt200.1).bind fun bt204 => (if 0 ≤ (wrap64 ((wrap64 ((l0.length : Int) - (bt193.1.length : Int))) + 1)) then (if (wrap64 ((wrap64 ((l0.length : Int) - (bt193.1.length : Int))) + 1) : Int).toNat ≤ 70368744177664 then (quo_long.l0 k bt193.1 (List.replicate (wrap64 ((wrap64 ((l0.length : Int) - (bt193.1.length : Int))) + 1) : Int).toNat 0) t192 (bt193.1.length : Int) bt204.2 (wrap64 ((l0.length : Int) - (bt193.1.length : Int)))) else (none)) else (none)))) else (none)) else (none)))) else (none)) else (none)) = some (r1, r2, r3) := h
  clear h
  obtain ⟨ji3, hji3⟩ : ∃ j_ : Int, (wrap64 ((l1.length : Int) - 1)) = j_ := ⟨_, rfl⟩
  (first | rw [hji3] at H | simp only [hji3] at H)
  have hji3w : (IntKind.i64.wrap ((l1.length : Int) - 1)) = ji3 := (i64_w _).trans hji3
  by_cases c4 : 0 ≤ (ji3)
  case neg => rw [if_neg c4] at H; exact absurd H (by simp)
  rw [if_pos c4] at H
  have c4b0 : decide (0 ≤ (ji3)) = true := decide_eq_true c4
  clear c4
  by_cases c5 : (ji3) < (l1.length : Int)
  case neg => rw [if_neg c5] at H; exact absurd H (by simp)
  rw [if_pos c5] at H
  have c5b0 : decide ((ji3) < (l1.length : Int)) = true := decide_eq_true c5
  clear c5
  replace H := Option.bind_eq_some_iff.mp H
  obtain ⟨t192, A60, H⟩ := H
  (try dsimp only at H)
  have A6 := A0_ A60
  clear A60
  replace H := Option.bind_eq_some_iff.mp H
  obtain ⟨⟨t193, t196⟩, A70, H⟩ := H
  (try dsimp only at H)
  have A7 := A0_ A70
  clear A70
  obtain ⟨ji8, hji8⟩ : ∃ j_ : Int, (wrap64 ((l0.length : Int) + 1)) = j_ := ⟨_, rfl⟩
  (first | rw [hji8] at H | simp only [hji8] at H)
  (try rw [hji8] at A6)
  (try rw [hji8] at A7)
  have hji8w : (IntKind.i64.wrap ((l0.length : Int) + 1)) = ji8 := (i64_w _).trans hji8
  by_cases c9 : 0 ≤ (ji8)
  case neg => rw [if_neg c9] at H; exact absurd H (by simp)
  rw [if_pos c9] at H
  have c9b0 := eq_true c9
  have c9b1 : decide (0 ≤ (ji8)) = true := decide_eq_true c9
  clear c9
  by_cases c10 : (ji8 : Int).toNat ≤ 70368744177664
  case neg => rw [if_neg c10] at H; exact absurd H (by simp)
  rw [if_pos c10] at H
  have c10b0 := eq_true c10
  have c10b1 : decide ((ji8 : Int).toNat ≤ 70368744177664) = true := decide_eq_true c10
  clear c10
  obtain ⟨y197, hy197⟩ : ∃ y_ : List Int, y_ = (List.replicate (ji8 : Int).toNat 0) := ⟨_, rfl⟩
  replace H : ((nat_Shl.f k l0 t192).bind fun bt200 => ((own_copy.f y197 bt200.1).bind fun bt204 => (if 0 ≤ (wrap64 ((wrap64 ((l0.length : Int) - (t193.length : Int))) + 1)) then (if (wrap64 ((wrap64 ((l0.length : Int) - (t193.length : Int))) + 1) : Int).toNat ≤ 70368744177664 then (quo_long.l0 k t193 (List.replicate (wrap64 ((wrap64 ((l0.length : Int) - (t193.length : Int))) + 1) : Int).toNat 0) t192 (t193.length : Int) bt204.2 (wrap64 ((l0.length : Int) - (t193.length : Int)))) else (none)) else (none)))) = some (r1, r2, r3) := by first | (rw [hy197]; with_reducible exact H) | (rw [hy197]; exact H) | exact H
  have Ny197 := A0_ hy197
  clear hy197
  replace H := Option.bind_eq_some_iff.mp H
  obtain ⟨⟨t200, t203⟩, A110, H⟩ := H
  (try dsimp only at H)
  have A11 := A0_ A110
  clear A110
  replace H := Option.bind_eq_some_iff.mp H
  obtain ⟨⟨t204, t205⟩, A120, H⟩ := H
  (try dsimp only at H)
  have A12 := A0_ A120
  clear A120
  obtain ⟨ji13, hji13⟩ : ∃ j_ : Int, (wrap64 ((wrap64 ((l0.length : Int) - (t193.length : Int))) + 1)) = j_ := ⟨_, rfl⟩
  (first | rw [hji13] at H | simp only [hji13] at H)
  (try rw [hji13] at A6)
  (try rw [hji13] at A7)
  (try rw [hji13] at A11)
  (try rw [hji13] at A12)
  have hji13w : (IntKind.i64.wrap ((wrap64 ((l0.length : Int) - (t193.length : Int))) + 1)) = ji13 := (i64_w _).trans hji13
  by_cases c14 : 0 ≤ (ji13)
  case neg => rw [if_neg c14] at H; exact absurd H (by simp)
  rw [if_pos c14] at H
  have c14b0 := eq_true c14
  have c14b1 : decide (0 ≤ (ji13)) = true := decide_eq_true c14
  clear c14
  by_cases c15 : (ji13 : Int).toNat ≤ 70368744177664
  case neg => rw [if_neg c15] at H; exact absurd H (by simp)
  rw [if_pos c15] at H
  have c15b0 := eq_true c15
  have c15b1 : decide ((ji13 : Int).toNat ≤ 70368744177664) = true := decide_eq_true c15
  clear c15
  obtain ⟨y206, hy206⟩ : ∃ y_ : List Int, y_ = (List.replicate (ji13 : Int).toNat 0) := ⟨_, rfl⟩
  replace H : (quo_long.l0 k t193 y206 t192 (t193.length : Int) t205 (wrap64 ((l0.length : Int) - (t193.length : Int)))) = some (r1, r2, r3) := by first | (rw [hy206]; with_reducible exact H) | (rw [hy206]; exact H) | exact H
  have Ny206 := A0_ hy206
  clear hy206
  have H' := A0_ H
  clear H
  have p191 : 0 ≤ ((ji3) : Int) := od_
  have q191 : (ji3) < (l1.length : Int) := od_
  obtain ⟨ad191, e191, hx191_0⟩ := Kd.at_int (Kd.V_reads' HO1.out).2.2 (ji3) p191 q191
  cases e191
  replace p191 := eq_true p191
  replace q191 := eq_true q191
  go_enter Try.func28, Try.ntmps28
  go_wp2_with (first | ((with_reducible refine gate_callee (f := 46) rfl ?_); refine goesM_ (some 22) Try.func46 #[.int .u32 (rd l1 (ji3))] rfl ?_ (by (try simp only [List.map_toArray, List.map_cons, List.map_nil]); first | done | (simp only [hji3]; rfl) | rfl | (simp only [List.length_drop, List.length_take]; rfl)); (with_reducible refine (bits_LeadingZeros32.calls (rd l1 (ji3)) t192 _ A6.out).mono ?_); rintro e w' ⟨rfl, ⟨nd, rfl⟩⟩; refine ⟨_, rfl, ?_⟩) | ((with_reducible refine gate_callee (f := 24) rfl ?_); refine goesM_ (some 26) Try.func24 #[.slice (some ad191) l1.length c1, .int .i64 t192] rfl ?_; (with_reducible refine (nat_Shl.calls k (fun k_ => ((P0_ k_ ∨ P1_ k_) ∨ w.heap.size ≤ k_)) _ _ l1 t192 t193 t196 _ ?side1 A7.out).mono ?_); (case side1 => exact HO1.out); rintro e w16 ⟨v194, rfl, ho0, hb⟩; refine ⟨_, rfl, ?_⟩; have n0_ := A0_ (Kd.V_below (mvV HO0.out) hb); have n1_ := A0_ (Kd.V_below (mvV HO1.out) hb); have n2_ := A0_ (Kd.V_lower (Kd.V_mono (ok' := fun k_ => ((P0_ k_ ∨ P1_ k_) ∨ w.heap.size ≤ k_)) ho0 (fun k_ hk_ => Or.elim hk_ (fun hs_ => hs_) (fun hn_ => (.inr (Nat.le_trans (below_size bl_) hn_))))) (below_size bl_)); have n3_ := A0_ (below_step bl_ hb); clear HO0; clear HO1; clear HB; have HO0 := n0_; have HO1 := n1_; have HO195 := n2_; have HB := n3_; clear n0_ n1_ n2_ n3_; (try clear hb); (try clear hb2); (try clear hk); (try clear hi); (try clear ho0); obtain ⟨Ao17, co17, eo17⟩ := Kd.V_slice HO195.out; subst eo17) | ((with_reducible refine gate_dst (N := 34) rfl ?_); refine Kd.R_make (Kd.int .u32) _ 37 rfl (N := 34) rfl 22 _ _ rfl ji8 rfl rfl Try.underlying22 (.int .u32 0) 4 info37 rfl (by decide) (by omega) 0 (ok := fun _ => True) (okp := fun _ => True) rfl (fun _ hk => hk) trivial od_ (Nat.le_trans (Nat.mul_le_mul_right _ (od_ : ji8.toNat ≤ 70368744177664)) (by omega)) (Below.refl _ _) (Nat.le_refl _) ?_; intro v198 w18 ho19 hb hg_ hnew_; clear hg_ hnew_; (first | rw [← Ny197.out] at ho19 | (simp only [Int.reduceToNat] at ho19; rw [← Ny197.out] at ho19)); have n0_ := A0_ (Kd.V_elder' (mvV HO0.out) (Kd.R_base ho19) hb); have n1_ := A0_ (Kd.V_elder' (mvV HO1.out) (Kd.R_base ho19) hb); have n2_ := A0_ (Kd.V_elder' (mvV HO195.out) (Kd.R_base ho19) hb); have n3_ := A0_ (Kd.R_lower (Kd.R_newM (M := fun k_ => (w.heap.size ≤ k_)) ho19 (below_size bl_) (fun k_ h_ => h_)) (below_size bl_)); have n4_ := A0_ (below_step bl_ hb); clear HO0; clear HO1; clear HO195; clear HB; have HO0 := n0_; have HO1 := n1_; have HO195 := n2_; have HO199 := n3_; have HB := n4_; clear n0_ n1_ n2_ n3_ n4_; clear hb ho19) | ((with_reducible refine gate_callee (f := 24) rfl ?_); refine goesM_ (some 38) Try.func24 #[.slice A0 l0.length c0, .int .i64 t192] rfl ?_; (with_reducible refine (nat_Shl.calls k (fun k_ => (((P0_ k_ ∨ P1_ k_) ∨ w.heap.size ≤ k_) ∧ some k_ ≠ (v198 : Value).ownBlock)) _ _ l0 t192 t200 t203 _ ?side1 A11.out).mono ?_); (case side1 => exact HO0.out); rintro e w20 ⟨v201, rfl, ho0, hb⟩; refine ⟨_, rfl, ?_⟩; have n0_ := A0_ (Kd.V_below (mvV HO0.out) hb); have n1_ := A0_ (Kd.V_below (mvV HO1.out) hb); have n2_ := A0_ (Kd.V_below (mvV HO195.out) hb); have n3_ := A0_ (Kd.R_below (mvR HO199.out) hb); have n4_ := A0_ (Kd.V_lower (Kd.V_mono (ok' := fun k_ => ((P0_ k_ ∨ P1_ k_) ∨ w.heap.size ≤ k_) ∧ some k_ ≠ (v198 : Value).ownBlock) ho0 (fun k_ hk_ => ⟨Or.elim hk_ (fun hs_ => hs_.1) (fun hn_ => (.inr (Nat.le_trans (below_size bl_) hn_))), Or.elim hk_ (fun hs_ => hs_.2) (fun hn_ => (Kd.fresh' (Kd.R_lt (mvR HO199.out)) k_ hn_))⟩)) (below_size bl_)); have n5_ := A0_ (below_step bl_ hb); clear HO0; clear HO1; clear HO195; clear HO199; clear HB; have HO0 := n0_; have HO1 := n1_; have HO195 := n2_; have HO199 := n3_; have HO202 := n4_; have HB := n5_; clear n0_ n1_ n2_ n3_ n4_ n5_; (try clear hb); (try clear hb2); (try clear hk); (try clear hi); (try clear ho0); obtain ⟨Ao21, co21, eo21⟩ := Kd.R_slice HO199.out; subst eo21; obtain ⟨Ao22, co22, eo22⟩ := Kd.V_slice HO202.out; subst eo22) | ((with_reducible refine gate_copy rfl ?_); refine own_copy.arm rfl (.tmp 41) (.tmp 42) 22 22 37 rfl Try.underlying22 (by obtain ⟨i_, hi_, _, hz_, _⟩ := info_parts info37; rw [hi_]; simp [hz_]) (fun k_ => some k_ = (.slice Ao21 y197.length co21 : Value).ownBlock) (.slice Ao21 y197.length co21) y197 _ _ t200 t204 t205 w (by first | rfl | (simp only [List.length_drop, List.length_take]; rfl)) (by first | rfl | (simp only [List.length_drop, List.length_take]; rfl)) ?side1 ?side2 ?side3 ?side4 A12.out ?_; (case side1 => exact bl_); (case side2 => exact Kd.R_tight rfl HO199.out); (case side3 => exact Kd.C_kept_ownV (HO202.out) (fun k_ hk_ hs_ => (hk_.2) hs_)); (case side4 => exact (Kd.V_reads' HO202.out).2.1); intro w23 hy0 hb hkp; have n0_ := A0_ (Kd.V_mono (ok' := fun k_ => ((P0_ k_ ∨ P1_ k_) ∨ w.heap.size ≤ k_) ∧ some k_ ≠ (.slice Ao21 y197.length co21 : Value).ownBlock) (Kd.V_keptB (HO0.out) hkp (fun k_ hk_ hs_ => (hk_.2) hs_)) (fun k_ hk_ => ⟨hk_.1.1, hk_.1.2⟩)); have n1_ := A0_ (Kd.V_mono (ok' := fun k_ => ((P0_ k_ ∨ P1_ k_) ∨ w.heap.size ≤ k_) ∧ some k_ ≠ (.slice Ao21 y197.length co21 : Value).ownBlock) (Kd.V_keptB (HO1.out) hkp (fun k_ hk_ hs_ => (hk_.2) hs_)) (fun k_ hk_ => ⟨hk_.1.1, hk_.1.2⟩)); have n2_ := A0_ (Kd.V_mono (ok' := fun k_ => ((P0_ k_ ∨ P1_ k_) ∨ w.heap.size ≤ k_) ∧ some k_ ≠ (.slice Ao21 y197.length co21 : Value).ownBlock) (Kd.V_keptB (HO195.out) hkp (fun k_ hk_ hs_ => (hk_.2) hs_)) (fun k_ hk_ => ⟨hk_.1.1, hk_.1.2⟩)); have n3_ := A0_ (Kd.R_reok rfl hy0 (fun k_ e_ => HO199.out.1 k_ e_)); have n4_ := A0_ (Kd.V_mono (ok' := fun k_ => ((P0_ k_ ∨ P1_ k_) ∨ w.heap.size ≤ k_) ∧ some k_ ≠ (.slice Ao21 y197.length co21 : Value).ownBlock) (Kd.V_keptB (HO202.out) hkp (fun k_ hk_ hs_ => (hk_.2) hs_)) (fun k_ hk_ => ⟨hk_.1.1, hk_.1.2⟩)); have n5_ := A0_ (hb); clear HO0; clear HO1; clear HO195; clear HO199; clear HO202; clear HB; have HO0 := n0_; have HO1 := n1_; have HO195 := n2_; have HO199 := n3_; have HO202 := n4_; have HB := n5_; clear n0_ n1_ n2_ n3_ n4_ n5_; (try clear hb); (try clear hkp); (try clear hy0)) | ((with_reducible refine gate_dst (N := 49) rfl ?_); refine Kd.R_make (Kd.int .u32) _ 37 rfl (N := 49) rfl 22 _ _ rfl ji13 rfl rfl Try.underlying22 (.int .u32 0) 4 info37 rfl (by decide) (by omega) 0 (ok := fun _ => True) (okp := fun _ => True) rfl (fun _ hk => hk) trivial od_ (Nat.le_trans (Nat.mul_le_mul_right _ (od_ : ji13.toNat ≤ 70368744177664)) (by omega)) (Below.refl _ _) (Nat.le_refl _) ?_; intro v207 w24 ho25 hb hg_ hnew_; clear hg_ hnew_; (first | rw [← Ny206.out] at ho25 | (simp only [Int.reduceToNat] at ho25; rw [← Ny206.out] at ho25)); have n0_ := A0_ (Kd.V_elder' (mvV HO0.out) (Kd.R_base ho25) hb); have n1_ := A0_ (Kd.V_elder' (mvV HO1.out) (Kd.R_base ho25) hb); have n2_ := A0_ (Kd.V_elder' (mvV HO195.out) (Kd.R_base ho25) hb); have n3_ := A0_ (Kd.R_elder' (mvR HO199.out) (Kd.R_base ho25) hb); have n4_ := A0_ (Kd.V_elder' (mvV HO202.out) (Kd.R_base ho25) hb); have n5_ := A0_ (Kd.R_lower (Kd.R_new' (Kd.R_newM (M := fun k_ => (w.heap.size ≤ k_)) ho25 (below_size bl_) (fun k_ h_ => h_)) (Kd.R_lt (mvR HO199.out))) (below_size bl_)); have n6_ := A0_ (below_step bl_ hb); clear HO0; clear HO1; clear HO195; clear HO199; clear HO202; clear HB; have HO0 := n0_; have HO1 := n1_; have HO195 := n2_; have HO199 := n3_; have HO202 := n4_; have HO208 := n5_; have HB := n6_; clear n0_ n1_ n2_ n3_ n4_ n5_ n6_; clear hb ho25))
  go_loopg [12] k (fun kq v12 w' => ∃ (x1_1 : List Int) (x4_1 : List Int) (x9_1 : List Int) (x12_1 : Int), v12 = .int .i64 x12_1 ∧ Aside0 (quo_long.l0 kq x1_1 x4_1 t192 (t193.length : Int) x9_1 x12_1 = some (r1, r2, r3)) ∧ Aside0 (kq ≤ k) ∧ Aside0 (Kd.V (Kd.int .u32) 37 w' w.heap.size (fun k_ => ((P0_ k_ ∨ P1_ k_) ∨ w.heap.size ≤ k_) ∧ some k_ ≠ (v207 : Value).ownBlock ∧ some k_ ≠ ((.slice Ao21 y197.length co21) : Value).ownBlock) (.slice Ao17 t193.length co17) x1_1) ∧ Aside0 (Kd.R (Kd.int .u32) 37 w' w.heap.size (fun k_ => (w.heap.size ≤ k_) ∧ some k_ ≠ ((.slice Ao21 y197.length co21) : Value).ownBlock) v207 x4_1) ∧ Aside0 (Kd.R (Kd.int .u32) 37 w' w.heap.size (fun k_ => (w.heap.size ≤ k_) ∧ some k_ ≠ (v207 : Value).ownBlock) (.slice Ao21 y197.length co21) x9_1) ∧ Aside0 (Below w.heap.size w w'))
  case atStart => exact ⟨(t193), (y206), (t205), (wrap64 ((l0.length : Int) - (t193.length : Int))), rs_, H', ⟨Nat.le_refl _⟩, ⟨mvV (Kd.V_mono HO195.out (fun _ hk => ⟨hk.1.1, ⟨hk.2, hk.1.2⟩⟩))⟩, ⟨mvR (Kd.R_mono HO208.out (fun _ hk => ⟨hk.1.1, hk.2⟩))⟩, ⟨mvR (Kd.R_mono HO199.out (fun _ hk => ⟨hk.1.1, hk.2⟩))⟩, ⟨bl_⟩⟩
  case round =>
    clear H'
    (try clear c1); (try clear p1); (try clear q1); (try clear hx1); (try clear c2); (try clear p2); (try clear c4); (try clear c4b0); (try clear c5); (try clear c5b0); (try clear p6); (try clear c9); (try clear c9b0); (try clear c9b1); (try clear c10); (try clear c10b0); (try clear c10b1); (try clear c14); (try clear c14b0); (try clear c14b1); (try clear c15); (try clear c15b0); (try clear c15b1)
    (try clear p19); (try clear q19); (try clear hx19); (try clear c24); (try clear hx191_0); (try clear p191); (try clear q191)
    obtain ⟨x1_1, x4_1, x9_1, x12_1, rfl, HA, HK1, HO_1, HO_4, HO_9, HB⟩ := hrel
    have hl1_1 := (Kd.V_reads' HO_1.out).1
    rw [hl1_1] at HO_1
    (try simp only [hl1_1])
    (try simp only [hl1_1] at HO_4)
    (try simp only [hl1_1] at HO_9)
    have hl9_1 := (Kd.R_reads' HO_9.out).1
    rw [hl9_1] at HO_9
    (try simp only [hl9_1])
    (try simp only [hl9_1] at HO_1)
    (try simp only [hl9_1] at HO_4)
    (try simp only [hl1_1] at HA)
    cases gk with
    | zero => exact absurd HA.out (by simp [quo_long.l0])
    | succ k1 =>
      have H := HA.out
      clear HA
      simp only [quo_long.l0] at H
      by_cases c26 : x12_1 ≥ 0
      · rw [if_pos c26] at H
        have c26b0 : decide (0 ≤ x12_1) = true := decide_eq_true c26
        clear c26
        obtain ⟨ji27, hji27⟩ : ∃ j_ : Int, (wrap64 (x12_1 + (x1_1.length : Int))) = j_ := ⟨_, rfl⟩
        (first | rw [hji27] at H | simp only [hji27] at H)
        have hji27w : (IntKind.i64.wrap (x12_1 + (x1_1.length : Int))) = ji27 := (i64_w _).trans hji27
        by_cases c28 : 0 ≤ (ji27)
        case neg => rw [if_neg c28] at H; exact absurd H (by simp)
        rw [if_pos c28] at H
        have c28b0 : decide (0 ≤ (ji27)) = true := decide_eq_true c28
        clear c28
        by_cases c29 : (ji27) < (x9_1.length : Int)
        case neg => rw [if_neg c29] at H; exact absurd H (by simp)
        rw [if_pos c29] at H
        have c29b0 : decide ((ji27) < (x9_1.length : Int)) = true := decide_eq_true c29
        clear c29
        obtain ⟨ji30, hji30⟩ : ∃ j_ : Int, (wrap64 ((ji27) - 1)) = j_ := ⟨_, rfl⟩
        (first | rw [hji30] at H | simp only [hji30] at H)
        have hji30w : (IntKind.i64.wrap ((ji27) - 1)) = ji30 := (i64_w _).trans hji30
        by_cases c31 : 0 ≤ (ji30)
        case neg => rw [if_neg c31] at H; exact absurd H (by simp)
        rw [if_pos c31] at H
        have c31b0 : decide (0 ≤ (ji30)) = true := decide_eq_true c31
        clear c31
        by_cases c32 : (ji30) < (x9_1.length : Int)
        case neg => rw [if_neg c32] at H; exact absurd H (by simp)
        rw [if_pos c32] at H
        have c32b0 : decide ((ji30) < (x9_1.length : Int)) = true := decide_eq_true c32
        clear c32
        obtain ⟨ji33, hji33⟩ : ∃ j_ : Int, (wrap64 ((x1_1.length : Int) - 1)) = j_ := ⟨_, rfl⟩
        (first | rw [hji33] at H | simp only [hji33] at H)
        have hji33w : (IntKind.i64.wrap ((x1_1.length : Int) - 1)) = ji33 := (i64_w _).trans hji33
        by_cases c34 : 0 ≤ (ji33)
        case neg => rw [if_neg c34] at H; exact absurd H (by simp)
        rw [if_pos c34] at H
        have c34b0 : decide (0 ≤ (ji33)) = true := decide_eq_true c34
        clear c34
        by_cases c35 : (ji33) < (x1_1.length : Int)
        case neg => rw [if_neg c35] at H; exact absurd H (by simp)
        rw [if_pos c35] at H
        have c35b0 : decide ((ji33) < (x1_1.length : Int)) = true := decide_eq_true c35
        clear c35
        by_cases c36 : (IntKind.u64.wrap (rd x1_1 (ji33))) = 0
        · rw [if_pos c36] at H
          exact absurd H (by simp)
        · rw [if_neg c36] at H
          have c36b0 : ((IntKind.u64.wrap (rd x1_1 (ji33))) == 0) = false := beq_eq_false_iff_ne.mpr c36
          have c36b1 : ((IntKind.u64.wrap (rd x1_1 (ji33))) != 0) = true := bne_iff_ne.mpr c36
          have HC37 := A0_ H
          clear H
          try go_wp2
          try go_step3
          try go_wp2
          have n0_ := A0_ (Kd.V_drew HO_1.out)
          have n1_ := A0_ (Kd.R_drew HO_4.out)
          have n2_ := A0_ (Kd.R_drew HO_9.out)
          have n3_ := A0_ (below_drew1 HB.out)
          clear HO_1
          clear HO_4
          clear HO_9
          clear HB
          have HO_1 := n0_
          have HO_4 := n1_
          have HO_9 := n2_
          have HB := n3_
          clear n0_ n1_ n2_ n3_
          have p219 : 0 ≤ ((ji27) : Int) := od_
          have q219 : (ji27) < (x9_1.length : Int) := od_
          obtain ⟨ad219, e219, hx219_0⟩ := Kd.at_int (Kd.R_reads' HO_9.out).2.2 (ji27) p219 q219
          cases e219
          replace p219 := eq_true p219
          replace q219 := eq_true q219
          have p220 : 0 ≤ ((ji30) : Int) := od_
          have q220 : (ji30) < (x9_1.length : Int) := od_
          obtain ⟨ad220, e220, hx220_0⟩ := Kd.at_int (Kd.R_reads' HO_9.out).2.2 (ji30) p220 q220
          obtain rfl : ad219 = ad220 := (by injection e220)
          replace p220 := eq_true p220
          replace q220 := eq_true q220
          refine start_ (n := 18) (S := fun w' => w'.cell? (ad219.add ((ji27)).toNat) = some (.int .u32 (rd x9_1 (ji27))) ∧ w'.cell? (ad219.add ((ji30)).toNat) = some (.int .u32 (rd x9_1 (ji30)))) (ds := []) #[false, false, false, false, false, false, false, false, false, false, false, false, false, false, false, false, false, false] (by kernel_rfl) rfl rfl ⟨hx219_0, hx220_0⟩ (fun hHeld => ?_); refine with_tabW quo_long.tab11 quo_long.bits11 (fun HT_ HW_ => ?_)
          generalize wr.drew = w38 at HO_1 HO_4 HO_9 HB hx219_0 hx220_0 hHeld ⊢
          refine pureM_ 0 (some 58) (any_of HT_.out (by kernel_rfl)) ?_
          refine pureM_ 1 (some 59) (any_of HT_.out (by kernel_rfl)) ?_
          refine pureM_ 2 (some 60) (any_of HT_.out (by kernel_rfl)) ?_
          refine pureM_ 3 (some 61) (any_of HT_.out (by kernel_rfl)) ?_
          refine pureM_ 4 (some 62) (any_of HT_.out (by kernel_rfl)) ?_
          refine pureM_ 8 (some 66) (any_of HT_.out (by kernel_rfl)) ?_
          refine pureM_ 9 (some 67) (any_of HT_.out (by kernel_rfl)) ?_
          refine pureM_ 10 (some 68) (any_of HT_.out (by kernel_rfl)) ?_
          refine pureM_ 11 (some 69) (any_of HT_.out (by kernel_rfl)) ?_
          refine pureM_ 12 (some 70) (any_of HT_.out (by kernel_rfl)) ?_
          refine pureM_ 13 (some 71) (any_of HT_.out (by kernel_rfl)) ?_
          refine take_ (i := 5) (N := some 63) (v := ?_) (a' := ?_) #[true, true, true, true, true, true, false, false, true, true, true, true, true, true, false, false, false, false] rfl rfl (take_ofW HT_.out HW_.out (by kernel_rfl)) (fun _ _ _ h => h) (Or.inl ⟨by rfl, ?_⟩) hHeld ?_ ?_
          rotate_left
          · rintro w' ⟨s0, s1⟩
            go_simp
            with_reducible rfl
          rotate_left
          · simp only [Act.put, List.setIfInBounds_toArray, List.set_cons_zero, List.set_cons_succ, i64_w, i32_w]
            rfl
          refine pureM_ 6 (some 64) (any_of HT_.out (by kernel_rfl)) ?_
          refine pureM_ 7 (some 65) (any_of HT_.out (by kernel_rfl)) ?_
          refine take_ (i := 14) (N := some 72) (v := ?_) (a' := ?_) #[true, true, true, true, true, true, true, true, true, true, true, true, true, true, true, false, false, false] rfl rfl (take_ofW HT_.out HW_.out (by kernel_rfl)) (fun _ _ _ h => h) (Or.inl ⟨by rfl, ?_⟩) hHeld ?_ ?_
          rotate_left
          · rintro w' ⟨s0, s1⟩
            go_simp
            with_reducible rfl
          rotate_left
          · simp only [Act.put, List.setIfInBounds_toArray, List.set_cons_zero, List.set_cons_succ, i64_w, i32_w]
            rfl
          refine pureM_ 15 (some 73) (any_of HT_.out (by kernel_rfl)) ?_
          refine pureM_ 16 (some 74) (any_of HT_.out (by kernel_rfl)) ?_
          refine pureM_ 17 (some 13) (any_of HT_.out (by kernel_rfl)) ?_
          refine done_ (done_of HT_.out (by kernel_rfl)) ?_
          try go_wp2
          have n0_ := A0_ (Kd.V_drew HO_1.out)
          have n1_ := A0_ (Kd.R_drew HO_4.out)
          have n2_ := A0_ (Kd.R_drew HO_9.out)
          have n3_ := A0_ (below_drew1 HB.out)
          clear HO_1
          clear HO_4
          clear HO_9
          clear HB
          have HO_1 := n0_
          have HO_4 := n1_
          have HO_9 := n2_
          have HB := n3_
          clear n0_ n1_ n2_ n3_
          have p221 : 0 ≤ ((ji33) : Int) := od_
          have q221 : (ji33) < (x1_1.length : Int) := od_
          obtain ⟨ad221, e221, hx221_0⟩ := Kd.at_int (Kd.V_reads' HO_1.out).2.2 (ji33) p221 q221
          cases e221
          replace p221 := eq_true p221
          replace q221 := eq_true q221
          have p222 : 0 ≤ ((ji33) : Int) := od_
          have q222 : (ji33) < (x1_1.length : Int) := od_
          obtain ⟨ad222, e222, hx222_0⟩ := Kd.at_int (Kd.V_reads' HO_1.out).2.2 (ji33) p222 q222
          obtain rfl : ad221 = ad222 := (by injection e222)
          replace p222 := eq_true p222
          replace q222 := eq_true q222
          refine start_ (n := 18) (S := fun w' => w'.cell? (ad221.add ((ji33)).toNat) = some (.int .u32 (rd x1_1 (ji33))) ∧ w'.cell? (ad221.add ((ji33)).toNat) = some (.int .u32 (rd x1_1 (ji33)))) (ds := []) #[false, false, false, false, false, false, false, false, false, false, false, false, false, false, false, false, false, false] (by kernel_rfl) rfl rfl ⟨hx221_0, hx222_0⟩ (fun hHeld => ?_); refine with_tabW quo_long.tab12 quo_long.bits12 (fun HT_ HW_ => ?_)
          generalize w38.drew = w39 at HO_1 HO_4 HO_9 HB hx221_0 hx222_0 hHeld ⊢
          refine pureM_ 0 (some 75) (any_of HT_.out (by kernel_rfl)) ?_
          refine pureM_ 1 (some 76) (any_of HT_.out (by kernel_rfl)) ?_
          refine pureM_ 2 (some 77) (any_of HT_.out (by kernel_rfl)) ?_
          refine pureM_ 3 (some 78) (any_of HT_.out (by kernel_rfl)) ?_
          refine pureM_ 4 (some 79) (any_of HT_.out (by kernel_rfl)) ?_
          refine pureM_ 8 (some 83) (any_of HT_.out (by kernel_rfl)) ?_
          refine pureM_ 9 (some 84) (any_of HT_.out (by kernel_rfl)) ?_
          refine pureM_ 10 (some 85) (any_of HT_.out (by kernel_rfl)) ?_
          refine pureM_ 11 (some 86) (any_of HT_.out (by kernel_rfl)) ?_
          refine pureM_ 12 (some 87) (any_of HT_.out (by kernel_rfl)) ?_
          refine take_ (i := 5) (N := some 80) (v := ?_) (a' := ?_) #[true, true, true, true, true, true, false, false, true, true, true, true, true, false, false, false, false, false] rfl rfl (take_ofW HT_.out HW_.out (by kernel_rfl)) (fun _ _ _ h => h) (Or.inl ⟨by rfl, ?_⟩) hHeld ?_ ?_
          rotate_left
          · rintro w' ⟨s0, s1⟩
            go_simp
            with_reducible rfl
          rotate_left
          · simp only [Act.put, List.setIfInBounds_toArray, List.set_cons_zero, List.set_cons_succ, i64_w, i32_w]
            rfl
          refine pureM_ 6 (some 81) (any_of HT_.out (by kernel_rfl)) ?_
          refine pureM_ 7 (some 82) (any_of HT_.out (by kernel_rfl)) ?_
          refine pureM_ 16 (some 14) (any_of HT_.out (by kernel_rfl)) ?_
          refine take_ (i := 13) (N := some 88) (v := ?_) (a' := ?_) #[true, true, true, true, true, true, true, true, true, true, true, true, true, true, false, false, true, false] rfl rfl (take_ofW HT_.out HW_.out (by kernel_rfl)) (fun _ _ _ h => h) (Or.inl ⟨by rfl, ?_⟩) hHeld ?_ ?_
          rotate_left
          · rintro w' ⟨s0, s1⟩
            go_simp
            with_reducible rfl
          rotate_left
          · simp only [Act.put, List.setIfInBounds_toArray, List.set_cons_zero, List.set_cons_succ, i64_w, i32_w]
            rfl
          refine pureM_ 14 (some 89) (any_of HT_.out (by kernel_rfl)) ?_
          refine pureM_ 15 (some 90) (any_of HT_.out (by kernel_rfl)) ?_
          refine pureM_ 17 (some 15) (any_of HT_.out (by kernel_rfl)) ?_
          refine done_ (done_of HT_.out (by kernel_rfl)) ?_
          try go_wp2
          try go_step3
          clear hji27 hji27w hji30 hji30w hji33 hji33w
          go_upto_block 2 with (fail)
          go_cut [14] (fun v14 wc => ∃ (kq : Nat) (x14_36 : Int), v14 = .int .u64 x14_36 ∧ Aside0 (quo_long.j3 kq x1_1 x4_1 t192 (x1_1.length : Int) x9_1 x12_1 x14_36 = some (r1, r2, r3)) ∧ Aside0 (kq ≤ k1) ∧ Aside0 (Kd.V (Kd.int .u32) 37 wc w.heap.size (fun k_ => ((P0_ k_ ∨ P1_ k_) ∨ w.heap.size ≤ k_) ∧ some k_ ≠ (v207 : Value).ownBlock ∧ some k_ ≠ ((.slice (some ad219) x9_1.length co21) : Value).ownBlock) (.slice (some ad221) x1_1.length co17) x1_1) ∧ Aside0 (Kd.R (Kd.int .u32) 37 wc w.heap.size (fun k_ => (w.heap.size ≤ k_) ∧ some k_ ≠ ((.slice (some ad219) x9_1.length co21) : Value).ownBlock) v207 x4_1) ∧ Aside0 (Kd.R (Kd.int .u32) 37 wc w.heap.size (fun k_ => (w.heap.size ≤ k_) ∧ some k_ ≠ (v207 : Value).ownBlock) (.slice (some ad219) x9_1.length co21) x9_1) ∧ Aside0 (Below w.heap.size w wc))
          case first =>
            have H := HC37.out
            clear HC37
            have H' := A0_ H
            clear H
            go_wp2
            go_loopg [14, 15] k1 (fun kq v14 v15 w' => ∃ (x14_2 : Int) (x15_2 : Int), v14 = .int .u64 x14_2 ∧ v15 = .int .u64 x15_2 ∧ Aside0 (quo_long.l1 kq x1_1 x4_1 t192 (x1_1.length : Int) x9_1 x12_1 x14_2 x15_2 = some (r1, r2, r3)) ∧ Aside0 (kq ≤ k1) ∧ Aside0 (Kd.V (Kd.int .u32) 37 w' w.heap.size (fun k_ => ((P0_ k_ ∨ P1_ k_) ∨ w.heap.size ≤ k_) ∧ some k_ ≠ (v207 : Value).ownBlock ∧ some k_ ≠ ((.slice (some ad219) x9_1.length co21) : Value).ownBlock) (.slice (some ad221) x1_1.length co17) x1_1) ∧ Aside0 (Kd.R (Kd.int .u32) 37 w' w.heap.size (fun k_ => (w.heap.size ≤ k_) ∧ some k_ ≠ ((.slice (some ad219) x9_1.length co21) : Value).ownBlock) v207 x4_1) ∧ Aside0 (Kd.R (Kd.int .u32) 37 w' w.heap.size (fun k_ => (w.heap.size ≤ k_) ∧ some k_ ≠ (v207 : Value).ownBlock) (.slice (some ad219) x9_1.length co21) x9_1) ∧ Aside0 (Below w.heap.size w w'))
            case atStart => exact ⟨(IntKind.u64.wrap (Int.tdiv (Go.bits .or .u64 (IntKind.u64.wrap ((IntKind.u64.wrap (rd x9_1 (ji27))) * 4294967296)) (IntKind.u64.wrap (rd x9_1 (ji30)))) (IntKind.u64.wrap (rd x1_1 (ji33))))), (Int.tmod (Go.bits .or .u64 (IntKind.u64.wrap ((IntKind.u64.wrap (rd x9_1 (ji27))) * 4294967296)) (IntKind.u64.wrap (rd x9_1 (ji30)))) (IntKind.u64.wrap (rd x1_1 (ji33)))), (by first | rfl | (simp; done) | (simp only [← hji27, ← hji30, ← hji33] <;> (first | rfl | simp)) | (simp [*]; done)), (by first | rfl | (simp; done) | (simp only [← hji27, ← hji30, ← hji33] <;> (first | rfl | simp)) | (simp [*]; done)), H', ⟨Nat.le_refl _⟩, ⟨by (try simp only [hl1_1]); (try simp only [hl9_1]); (with_reducible repeat (first | apply Kd.V_alloc | apply Kd.V_drewN | apply Kd.V_drew)); exact HO_1.out⟩, ⟨by (try simp only [hl1_1]); (try simp only [hl9_1]); (with_reducible repeat (first | apply Kd.R_alloc | apply Kd.R_drewN | apply Kd.R_drew)); exact HO_4.out⟩, ⟨by (try simp only [hl1_1]); (try simp only [hl9_1]); (with_reducible repeat (first | apply Kd.R_alloc | apply Kd.R_drewN | apply Kd.R_drew)); exact HO_9.out⟩, ⟨bl_⟩⟩
            case round =>
              clear H'
              (try clear c1); (try clear p1); (try clear q1); (try clear hx1); (try clear c2); (try clear p2); (try clear q2); (try clear hx2); (try clear c3); (try clear c4); (try clear c4b0); (try clear c5); (try clear c5b0); (try clear p6); (try clear c9); (try clear c9b0); (try clear c9b1); (try clear c10); (try clear c10b0); (try clear c10b1); (try clear c14); (try clear c14b0); (try clear c14b1)
              (try clear c15); (try clear c15b0); (try clear c15b1); (try clear p19); (try clear q19); (try clear hx19); (try clear p21); (try clear q21); (try clear hx21); (try clear p22); (try clear q22); (try clear hx22); (try clear c24); (try clear c26); (try clear c26b0); (try clear c28); (try clear c28b0); (try clear c29); (try clear c29b0); (try clear c31); (try clear c31b0); (try clear c32)
              (try clear c32b0); (try clear c34); (try clear c34b0); (try clear c35); (try clear c35b0); (try clear c36); (try clear c36b0); (try clear c36b1); (try clear hx191_0); (try clear hx219_0); (try clear hx220_0); (try clear hx221_0); (try clear hx222_0); (try clear p1); (try clear p19); (try clear p191); (try clear p2); (try clear p219); (try clear p220); (try clear p221); (try clear p222)
              (try clear p6); (try clear q1); (try clear q19); (try clear q191); (try clear q219); (try clear q220); (try clear q221); (try clear q222)
              obtain ⟨x14_2, x15_2, rfl, rfl, HA, HK2, HO_1, HO_4, HO_9, HB⟩ := hrel
              cases gk with
              | zero => exact absurd HA.out (by simp [quo_long.l1])
              | succ k2 =>
                have H := HA.out
                clear HA
                simp only [quo_long.l1] at H
                have HC40 := A0_ H
                clear H
                go_upto_region 13 with (fail)
                go_cut [114] (fun v114 wc => ∃ (kq : Nat) (x114_39 : Bool), v114 = .bool x114_39 ∧ Aside0 (quo_long.j2 kq x1_1 x4_1 t192 (x1_1.length : Int) x9_1 x12_1 x14_2 x15_2 x114_39 = some (r1, r2, r3)) ∧ Aside0 (kq ≤ k2) ∧ Aside0 (Kd.V (Kd.int .u32) 37 wc w.heap.size (fun k_ => ((P0_ k_ ∨ P1_ k_) ∨ w.heap.size ≤ k_) ∧ some k_ ≠ (v207 : Value).ownBlock ∧ some k_ ≠ ((.slice (some ad219) x9_1.length co21) : Value).ownBlock) (.slice (some ad221) x1_1.length co17) x1_1) ∧ Aside0 (Kd.R (Kd.int .u32) 37 wc w.heap.size (fun k_ => (w.heap.size ≤ k_) ∧ some k_ ≠ ((.slice (some ad219) x9_1.length co21) : Value).ownBlock) v207 x4_1) ∧ Aside0 (Kd.R (Kd.int .u32) 37 wc w.heap.size (fun k_ => (w.heap.size ≤ k_) ∧ some k_ ≠ (v207 : Value).ownBlock) (.slice (some ad219) x9_1.length co21) x9_1) ∧ Aside0 (Below w.heap.size w wc))
                case first =>
                  have H := HC40.out
                  clear HC40
                  by_cases c41 : x14_2 ≥ 4294967296
                  · rw [if_pos c41] at H
                    have c41b0 : decide (4294967296 ≤ x14_2) = true := decide_eq_true c41
                    clear c41
                    (first | rw [c41b0] | (simp only [i64_w, i32_w]; rw [c41b0]) | rw [c41b1] | skip)
                    have H' := A0_ H
                    clear H
                    try go_wp2
                    have n0_ := A0_ (Kd.V_drew HO_1.out)
                    have n1_ := A0_ (Kd.R_drew HO_4.out)
                    have n2_ := A0_ (Kd.R_drew HO_9.out)
                    have n3_ := A0_ (below_drew1 HB.out)
                    clear HO_1
                    clear HO_4
                    clear HO_9
                    clear HB
                    have HO_1 := n0_
                    have HO_4 := n1_
                    have HO_9 := n2_
                    have HB := n3_
                    clear n0_ n1_ n2_ n3_
                    refine start_ (n := 24) (S := fun w' => True) (ds := []) #[false, false, false, false, false, false, false, false, false, false, false, false, false, false, false, false, false, false, false, false, false, false, false, false] (by kernel_rfl) rfl rfl trivial (fun hHeld => ?_); refine with_tabW quo_long.tab13 quo_long.bits13 (fun HT_ HW_ => ?_)
                    generalize wr.drew = w42 at HO_1 HO_4 HO_9 HB hHeld ⊢
                    refine pureM_ 0 (some 91) (any_of HT_.out (by kernel_rfl)) ?_
                    refine pureM_ 1 (some 92) (any_of HT_.out (by kernel_rfl)) ?_
                    refine pureM_ 2 (some 93) (any_of HT_.out (by kernel_rfl)) ?_
                    refine pure_ (i := 3) (N := some 94) (v := undef) (a' := ?_) #[true, true, true, true, false, false, false, false, false, false, false, false, false, false, false, false, false, false, false, false, false, false, false, false] rfl rfl (any_of HT_.out (by kernel_rfl)) (fun _ _ _ h => h) (Or.inr ⟨by rfl, rfl⟩) ?_ ?_
                    rotate_left
                    · simp only [Act.put, List.setIfInBounds_toArray, List.set_cons_zero, List.set_cons_succ, i64_w, i32_w]
                      rfl
                    refine pure_ (i := 4) (N := some 95) (v := undef) (a' := ?_) #[true, true, true, true, true, false, false, false, false, false, false, false, false, false, false, false, false, false, false, false, false, false, false, false] rfl rfl (any_of HT_.out (by kernel_rfl)) (fun _ _ _ h => h) (Or.inr ⟨by rfl, rfl⟩) ?_ ?_
                    rotate_left
                    · simp only [Act.put, List.setIfInBounds_toArray, List.set_cons_zero, List.set_cons_succ, i64_w, i32_w]
                      rfl
                    refine pure_ (i := 5) (N := some 96) (v := undef) (a' := ?_) #[true, true, true, true, true, true, false, false, false, false, false, false, false, false, false, false, false, false, false, false, false, false, false, false] rfl rfl (any_of HT_.out (by kernel_rfl)) (fun _ _ _ h => h) (Or.inr ⟨by rfl, rfl⟩) ?_ ?_
                    rotate_left
                    · simp only [Act.put, List.setIfInBounds_toArray, List.set_cons_zero, List.set_cons_succ, i64_w, i32_w]
                      rfl
                    refine pure_ (i := 6) (N := some 97) (v := undef) (a' := ?_) #[true, true, true, true, true, true, true, false, false, false, false, false, false, false, false, false, false, false, false, false, false, false, false, false] rfl rfl (any_of HT_.out (by kernel_rfl)) (fun _ _ _ h => h) (Or.inr ⟨by rfl, rfl⟩) ?_ ?_
                    rotate_left
                    · simp only [Act.put, List.setIfInBounds_toArray, List.set_cons_zero, List.set_cons_succ, i64_w, i32_w]
                      rfl
                    refine pure_ (i := 7) (N := some 98) (v := undef) (a' := ?_) #[true, true, true, true, true, true, true, true, false, false, false, false, false, false, false, false, false, false, false, false, false, false, false, false] rfl rfl (any_of HT_.out (by kernel_rfl)) (fun _ _ _ h => h) (Or.inr ⟨by rfl, rfl⟩) ?_ ?_
                    rotate_left
                    · simp only [Act.put, List.setIfInBounds_toArray, List.set_cons_zero, List.set_cons_succ, i64_w, i32_w]
                      rfl
                    refine pure_ (i := 8) (N := some 99) (v := undef) (a' := ?_) #[true, true, true, true, true, true, true, true, true, false, false, false, false, false, false, false, false, false, false, false, false, false, false, false] rfl rfl (any_of HT_.out (by kernel_rfl)) (fun _ _ _ h => h) (Or.inr ⟨by rfl, rfl⟩) ?_ ?_
                    rotate_left
                    · simp only [Act.put, List.setIfInBounds_toArray, List.set_cons_zero, List.set_cons_succ, i64_w, i32_w]
                      rfl
                    refine pure_ (i := 9) (N := some 100) (v := undef) (a' := ?_) #[true, true, true, true, true, true, true, true, true, true, false, false, false, false, false, false, false, false, false, false, false, false, false, false] rfl rfl (any_of HT_.out (by kernel_rfl)) (fun _ _ _ h => h) (Or.inr ⟨by rfl, rfl⟩) ?_ ?_
                    rotate_left
                    · simp only [Act.put, List.setIfInBounds_toArray, List.set_cons_zero, List.set_cons_succ, i64_w, i32_w]
                      rfl
                    refine pure_ (i := 10) (N := some 101) (v := undef) (a' := ?_) #[true, true, true, true, true, true, true, true, true, true, true, false, false, false, false, false, false, false, false, false, false, false, false, false] rfl rfl (any_of HT_.out (by kernel_rfl)) (fun _ _ _ h => h) (Or.inr ⟨by rfl, rfl⟩) ?_ ?_
                    rotate_left
                    · simp only [Act.put, List.setIfInBounds_toArray, List.set_cons_zero, List.set_cons_succ, i64_w, i32_w]
                      rfl
                    refine pure_ (i := 11) (N := some 102) (v := undef) (a' := ?_) #[true, true, true, true, true, true, true, true, true, true, true, true, false, false, false, false, false, false, false, false, false, false, false, false] rfl rfl (any_of HT_.out (by kernel_rfl)) (fun _ _ _ h => h) (Or.inr ⟨by rfl, rfl⟩) ?_ ?_
                    rotate_left
                    · simp only [Act.put, List.setIfInBounds_toArray, List.set_cons_zero, List.set_cons_succ, i64_w, i32_w]
                      rfl
                    refine pure_ (i := 12) (N := some 103) (v := undef) (a' := ?_) #[true, true, true, true, true, true, true, true, true, true, true, true, true, false, false, false, false, false, false, false, false, false, false, false] rfl rfl (any_of HT_.out (by kernel_rfl)) (fun _ _ _ h => h) (Or.inr ⟨by rfl, rfl⟩) ?_ ?_
                    rotate_left
                    · simp only [Act.put, List.setIfInBounds_toArray, List.set_cons_zero, List.set_cons_succ, i64_w, i32_w]
                      rfl
                    refine pure_ (i := 13) (N := some 104) (v := undef) (a' := ?_) #[true, true, true, true, true, true, true, true, true, true, true, true, true, true, false, false, false, false, false, false, false, false, false, false] rfl rfl (any_of HT_.out (by kernel_rfl)) (fun _ _ _ h => h) (Or.inr ⟨by rfl, rfl⟩) ?_ ?_
                    rotate_left
                    · simp only [Act.put, List.setIfInBounds_toArray, List.set_cons_zero, List.set_cons_succ, i64_w, i32_w]
                      rfl
                    refine pure_ (i := 14) (N := some 105) (v := undef) (a' := ?_) #[true, true, true, true, true, true, true, true, true, true, true, true, true, true, true, false, false, false, false, false, false, false, false, false] rfl rfl (any_of HT_.out (by kernel_rfl)) (fun _ _ _ h => h) (Or.inr ⟨by rfl, rfl⟩) ?_ ?_
                    rotate_left
                    · simp only [Act.put, List.setIfInBounds_toArray, List.set_cons_zero, List.set_cons_succ, i64_w, i32_w]
                      rfl
                    refine pure_ (i := 15) (N := some 106) (v := undef) (a' := ?_) #[true, true, true, true, true, true, true, true, true, true, true, true, true, true, true, true, false, false, false, false, false, false, false, false] rfl rfl (any_of HT_.out (by kernel_rfl)) (fun _ _ _ h => h) (Or.inr ⟨by rfl, rfl⟩) ?_ ?_
                    rotate_left
                    · simp only [Act.put, List.setIfInBounds_toArray, List.set_cons_zero, List.set_cons_succ, i64_w, i32_w]
                      rfl
                    refine pure_ (i := 16) (N := some 107) (v := undef) (a' := ?_) #[true, true, true, true, true, true, true, true, true, true, true, true, true, true, true, true, true, false, false, false, false, false, false, false] rfl rfl (any_of HT_.out (by kernel_rfl)) (fun _ _ _ h => h) (Or.inr ⟨by rfl, rfl⟩) ?_ ?_
                    rotate_left
                    · simp only [Act.put, List.setIfInBounds_toArray, List.set_cons_zero, List.set_cons_succ, i64_w, i32_w]
                      rfl
                    refine pure_ (i := 17) (N := some 108) (v := undef) (a' := ?_) #[true, true, true, true, true, true, true, true, true, true, true, true, true, true, true, true, true, true, false, false, false, false, false, false] rfl rfl (any_of HT_.out (by kernel_rfl)) (fun _ _ _ h => h) (Or.inr ⟨by rfl, rfl⟩) ?_ ?_
                    rotate_left
                    · simp only [Act.put, List.setIfInBounds_toArray, List.set_cons_zero, List.set_cons_succ, i64_w, i32_w]
                      rfl
                    refine pure_ (i := 18) (N := some 109) (v := undef) (a' := ?_) #[true, true, true, true, true, true, true, true, true, true, true, true, true, true, true, true, true, true, true, false, false, false, false, false] rfl rfl (any_of HT_.out (by kernel_rfl)) (fun _ _ _ h => h) (Or.inr ⟨by rfl, rfl⟩) ?_ ?_
                    rotate_left
                    · simp only [Act.put, List.setIfInBounds_toArray, List.set_cons_zero, List.set_cons_succ, i64_w, i32_w]
                      rfl
                    refine pure_ (i := 19) (N := some 110) (v := undef) (a' := ?_) #[true, true, true, true, true, true, true, true, true, true, true, true, true, true, true, true, true, true, true, true, false, false, false, false] rfl rfl (any_of HT_.out (by kernel_rfl)) (fun _ _ _ h => h) (Or.inr ⟨by rfl, rfl⟩) ?_ ?_
                    rotate_left
                    · simp only [Act.put, List.setIfInBounds_toArray, List.set_cons_zero, List.set_cons_succ, i64_w, i32_w]
                      rfl
                    refine pure_ (i := 20) (N := some 111) (v := undef) (a' := ?_) #[true, true, true, true, true, true, true, true, true, true, true, true, true, true, true, true, true, true, true, true, true, false, false, false] rfl rfl (any_of HT_.out (by kernel_rfl)) (fun _ _ _ h => h) (Or.inr ⟨by rfl, rfl⟩) ?_ ?_
                    rotate_left
                    · simp only [Act.put, List.setIfInBounds_toArray, List.set_cons_zero, List.set_cons_succ, i64_w, i32_w]
                      rfl
                    refine pure_ (i := 21) (N := some 112) (v := undef) (a' := ?_) #[true, true, true, true, true, true, true, true, true, true, true, true, true, true, true, true, true, true, true, true, true, true, false, false] rfl rfl (any_of HT_.out (by kernel_rfl)) (fun _ _ _ h => h) (Or.inr ⟨by rfl, rfl⟩) ?_ ?_
                    rotate_left
                    · simp only [Act.put, List.setIfInBounds_toArray, List.set_cons_zero, List.set_cons_succ, i64_w, i32_w]
                      rfl
                    refine pure_ (i := 22) (N := some 113) (v := undef) (a' := ?_) #[true, true, true, true, true, true, true, true, true, true, true, true, true, true, true, true, true, true, true, true, true, true, true, false] rfl rfl (any_of HT_.out (by kernel_rfl)) (fun _ _ _ h => h) (Or.inr ⟨by rfl, rfl⟩) ?_ ?_
                    rotate_left
                    · simp only [Act.put, List.setIfInBounds_toArray, List.set_cons_zero, List.set_cons_succ, i64_w, i32_w]
                      rfl
                    refine pureM_ 23 (some 114) (any_of HT_.out (by kernel_rfl)) ?_
                    refine done_ (done_of HT_.out (by kernel_rfl)) ?_
                    try go_wp2
                    go_meet
                    case rel => exact ⟨_, (true), rs_, H', ⟨by have := HK1.out; have := HK2.out; first | omega | exact Nat.le_refl _⟩, ⟨by (try simp only [hl1_1]); (try simp only [hl9_1]); (with_reducible repeat (first | apply Kd.V_alloc | apply Kd.V_drewN | apply Kd.V_drew)); exact HO_1.out⟩, ⟨by (try simp only [hl1_1]); (try simp only [hl9_1]); (with_reducible repeat (first | apply Kd.R_alloc | apply Kd.R_drewN | apply Kd.R_drew)); exact HO_4.out⟩, ⟨by (try simp only [hl1_1]); (try simp only [hl9_1]); (with_reducible repeat (first | apply Kd.R_alloc | apply Kd.R_drewN | apply Kd.R_drew)); exact HO_9.out⟩, ⟨bl_⟩⟩
                  · rw [if_neg c41] at H
                    have c41b0 : decide (4294967296 ≤ x14_2) = false := decide_eq_false c41
                    clear c41
                    (first | rw [c41b0] | (simp only [i64_w, i32_w]; rw [c41b0]) | rw [c41b1] | skip)
                    obtain ⟨ji43, hji43⟩ : ∃ j_ : Int, (wrap64 ((x1_1.length : Int) - 2)) = j_ := ⟨_, rfl⟩
                    (first | rw [hji43] at H | simp only [hji43] at H)
                    have hji43w : (IntKind.i64.wrap ((x1_1.length : Int) - 2)) = ji43 := (i64_w _).trans hji43
                    by_cases c44 : 0 ≤ (ji43)
                    case neg => rw [if_neg c44] at H; exact absurd H (by simp)
                    rw [if_pos c44] at H
                    have c44b0 : decide (0 ≤ (ji43)) = true := decide_eq_true c44
                    clear c44
                    by_cases c45 : (ji43) < (x1_1.length : Int)
                    case neg => rw [if_neg c45] at H; exact absurd H (by simp)
                    rw [if_pos c45] at H
                    have c45b0 : decide ((ji43) < (x1_1.length : Int)) = true := decide_eq_true c45
                    clear c45
                    obtain ⟨ji46, hji46⟩ : ∃ j_ : Int, (wrap64 ((wrap64 (x12_1 + (x1_1.length : Int))) - 2)) = j_ := ⟨_, rfl⟩
                    (first | rw [hji46] at H | simp only [hji46] at H)
                    have hji46w : (IntKind.i64.wrap ((wrap64 (x12_1 + (x1_1.length : Int))) - 2)) = ji46 := (i64_w _).trans hji46
                    by_cases c47 : 0 ≤ (ji46)
                    case neg => rw [if_neg c47] at H; exact absurd H (by simp)
                    rw [if_pos c47] at H
                    have c47b0 : decide (0 ≤ (ji46)) = true := decide_eq_true c47
                    clear c47
                    by_cases c48 : (ji46) < (x9_1.length : Int)
                    case neg => rw [if_neg c48] at H; exact absurd H (by simp)
                    rw [if_pos c48] at H
                    have c48b0 : decide ((ji46) < (x9_1.length : Int)) = true := decide_eq_true c48
                    clear c48
                    have H' := A0_ H
                    clear H
                    try go_wp2
                    have n0_ := A0_ (Kd.V_drew HO_1.out)
                    have n1_ := A0_ (Kd.R_drew HO_4.out)
                    have n2_ := A0_ (Kd.R_drew HO_9.out)
                    have n3_ := A0_ (below_drew1 HB.out)
                    clear HO_1
                    clear HO_4
                    clear HO_9
                    clear HB
                    have HO_1 := n0_
                    have HO_4 := n1_
                    have HO_9 := n2_
                    have HB := n3_
                    clear n0_ n1_ n2_ n3_
                    have p223 : 0 ≤ ((ji43) : Int) := od_
                    have q223 : (ji43) < (x1_1.length : Int) := od_
                    obtain ⟨ad223, e223, hx223_0⟩ := Kd.at_int (Kd.V_reads' HO_1.out).2.2 (ji43) p223 q223
                    obtain rfl : ad221 = ad223 := (by injection e223)
                    replace p223 := eq_true p223
                    replace q223 := eq_true q223
                    have p224 : 0 ≤ ((ji46) : Int) := od_
                    have q224 : (ji46) < (x9_1.length : Int) := od_
                    obtain ⟨ad224, e224, hx224_0⟩ := Kd.at_int (Kd.R_reads' HO_9.out).2.2 (ji46) p224 q224
                    obtain rfl : ad219 = ad224 := (by injection e224)
                    replace p224 := eq_true p224
                    replace q224 := eq_true q224
                    refine start_ (n := 24) (S := fun w' => w'.cell? (ad221.add ((ji43)).toNat) = some (.int .u32 (rd x1_1 (ji43))) ∧ w'.cell? (ad219.add ((ji46)).toNat) = some (.int .u32 (rd x9_1 (ji46)))) (ds := []) #[false, false, false, false, false, false, false, false, false, false, false, false, false, false, false, false, false, false, false, false, false, false, false, false] (by kernel_rfl) rfl rfl ⟨hx223_0, hx224_0⟩ (fun hHeld => ?_); refine with_tabW quo_long.tab13 quo_long.bits13 (fun HT_ HW_ => ?_)
                    generalize wr.drew = w49 at HO_1 HO_4 HO_9 HB hx223_0 hx224_0 hHeld ⊢
                    refine pureM_ 0 (some 91) (any_of HT_.out (by kernel_rfl)) ?_
                    refine pureM_ 1 (some 92) (any_of HT_.out (by kernel_rfl)) ?_
                    refine pureM_ 2 (some 93) (any_of HT_.out (by kernel_rfl)) ?_
                    refine pureM_ 3 (some 94) (any_of HT_.out (by kernel_rfl)) ?_
                    refine pureM_ 4 (some 95) (any_of HT_.out (by kernel_rfl)) ?_
                    refine pureM_ 5 (some 96) (any_of HT_.out (by kernel_rfl)) ?_
                    refine pureM_ 6 (some 97) (any_of HT_.out (by kernel_rfl)) ?_
                    refine pureM_ 7 (some 98) (any_of HT_.out (by kernel_rfl)) ?_
                    refine pureM_ 11 (some 102) (any_of HT_.out (by kernel_rfl)) ?_
                    refine pureM_ 12 (some 103) (any_of HT_.out (by kernel_rfl)) ?_
                    refine pureM_ 13 (some 104) (any_of HT_.out (by kernel_rfl)) ?_
                    refine pureM_ 14 (some 105) (any_of HT_.out (by kernel_rfl)) ?_
                    refine pureM_ 15 (some 106) (any_of HT_.out (by kernel_rfl)) ?_
                    refine pureM_ 16 (some 107) (any_of HT_.out (by kernel_rfl)) ?_
                    refine pureM_ 17 (some 108) (any_of HT_.out (by kernel_rfl)) ?_
                    refine pureM_ 18 (some 109) (any_of HT_.out (by kernel_rfl)) ?_
                    refine take_ (i := 8) (N := some 99) (v := ?_) (a' := ?_) #[true, true, true, true, true, true, true, true, true, false, false, true, true, true, true, true, true, true, true, false, false, false, false, false] rfl rfl (take_ofW HT_.out HW_.out (by kernel_rfl)) (fun _ _ _ h => h) (Or.inl ⟨by rfl, ?_⟩) hHeld ?_ ?_
                    rotate_left
                    · rintro w' ⟨s0, s1⟩
                      go_simp
                      with_reducible rfl
                    rotate_left
                    · simp only [Act.put, List.setIfInBounds_toArray, List.set_cons_zero, List.set_cons_succ, i64_w, i32_w]
                      rfl
                    refine pureM_ 9 (some 100) (any_of HT_.out (by kernel_rfl)) ?_
                    refine pureM_ 10 (some 101) (any_of HT_.out (by kernel_rfl)) ?_
                    refine take_ (i := 19) (N := some 110) (v := ?_) (a' := ?_) #[true, true, true, true, true, true, true, true, true, true, true, true, true, true, true, true, true, true, true, true, false, false, false, false] rfl rfl (take_ofW HT_.out HW_.out (by kernel_rfl)) (fun _ _ _ h => h) (Or.inl ⟨by rfl, ?_⟩) hHeld ?_ ?_
                    rotate_left
                    · rintro w' ⟨s0, s1⟩
                      go_simp
                      with_reducible rfl
                    rotate_left
                    · simp only [Act.put, List.setIfInBounds_toArray, List.set_cons_zero, List.set_cons_succ, i64_w, i32_w]
                      rfl
                    refine pureM_ 20 (some 111) (any_of HT_.out (by kernel_rfl)) ?_
                    refine pureM_ 21 (some 112) (any_of HT_.out (by kernel_rfl)) ?_
                    refine pureM_ 22 (some 113) (any_of HT_.out (by kernel_rfl)) ?_
                    refine pureM_ 23 (some 114) (any_of HT_.out (by kernel_rfl)) ?_
                    refine done_ (done_of HT_.out (by kernel_rfl)) ?_
                    try go_wp2
                    go_meet
                    case rel => exact ⟨_, (decide ((IntKind.u64.wrap (x14_2 * (IntKind.u64.wrap (rd x1_1 (ji43))))) > (Go.bits .or .u64 (IntKind.u64.wrap (x15_2 * 4294967296)) (IntKind.u64.wrap (rd x9_1 (ji46)))))), (by first | rfl | (simp; done) | (simp only [← hji43, ← hji46] <;> (first | rfl | simp)) | (simp [*]; done)), H', ⟨by have := HK1.out; have := HK2.out; first | omega | exact Nat.le_refl _⟩, ⟨by (try simp only [hl1_1]); (try simp only [hl9_1]); (with_reducible repeat (first | apply Kd.V_alloc | apply Kd.V_drewN | apply Kd.V_drew)); exact HO_1.out⟩, ⟨by (try simp only [hl1_1]); (try simp only [hl9_1]); (with_reducible repeat (first | apply Kd.R_alloc | apply Kd.R_drewN | apply Kd.R_drew)); exact HO_4.out⟩, ⟨by (try simp only [hl1_1]); (try simp only [hl9_1]); (with_reducible repeat (first | apply Kd.R_alloc | apply Kd.R_drewN | apply Kd.R_drew)); exact HO_9.out⟩, ⟨bl_⟩⟩
                case rest =>
                  clear HC40
                  (try clear c1); (try clear p1); (try clear q1); (try clear hx1); (try clear c2); (try clear p2); (try clear q2); (try clear hx2); (try clear c3); (try clear c4); (try clear c4b0); (try clear c5); (try clear c5b0); (try clear p6); (try clear c9); (try clear c9b0); (try clear c9b1); (try clear c10); (try clear c10b0); (try clear c10b1); (try clear c14); (try clear c14b0); (try clear c14b1)
                  (try clear c15); (try clear c15b0); (try clear c15b1); (try clear p19); (try clear q19); (try clear hx19); (try clear p21); (try clear q21); (try clear hx21); (try clear p22); (try clear q22); (try clear hx22); (try clear c24); (try clear c26); (try clear c26b0); (try clear c28); (try clear c28b0); (try clear c29); (try clear c29b0); (try clear c31); (try clear c31b0); (try clear c32)
                  (try clear c32b0); (try clear c34); (try clear c34b0); (try clear c35); (try clear c35b0); (try clear c36); (try clear c36b0); (try clear c36b1); (try clear c41); (try clear c41b0); (try clear c41b1); (try clear c44); (try clear c44b0); (try clear c45); (try clear c45b0); (try clear c47); (try clear c47b0); (try clear c48); (try clear c48b0); (try clear hx191_0); (try clear hx219_0)
                  (try clear hx220_0); (try clear hx221_0); (try clear hx222_0); (try clear hx223_0); (try clear hx224_0); (try clear p1); (try clear p19); (try clear p191); (try clear p2); (try clear p21); (try clear p219); (try clear p22); (try clear p220); (try clear p221); (try clear p222); (try clear p223); (try clear p224); (try clear p6); (try clear q1); (try clear q19); (try clear q191); (try clear q2)
                  (try clear q21); (try clear q219); (try clear q22); (try clear q220); (try clear q221); (try clear q222); (try clear q223); (try clear q224)
                  obtain ⟨kq, x114_39, rfl, HA, HJ39, HO_1, HO_4, HO_9, HB⟩ := hcut
                  cases kq with
                  | zero => exact absurd HA.out (by simp [quo_long.j2])
                  | succ kj39 =>
                    have H := HA.out
                    clear HA
                    simp only [quo_long.j2] at H
                    by_cases c50 : x114_39 = true
                    · subst c50
                      have H1 : (if 0 ≤ (wrap64 ((x1_1.length : Int) - 1)) then (if (wrap64 ((x1_1.length : Int) - 1)) < (x1_1.length : Int) then (if (IntKind.u64.wrap (x15_2 + (IntKind.u64.wrap (rd x1_1 (wrap64 ((x1_1.length : Int) - 1)))))) ≥ 4294967296 then (quo_long.j3 kj39 x1_1 x4_1 t192 (x1_1.length : Int) x9_1 x12_1 (IntKind.u64.wrap (x14_2 - 1))) else (quo_long.l1 kj39 x1_1 x4_1 t192 (x1_1.length : Int) x9_1 x12_1 (IntKind.u64.wrap (x14_2 - 1)) (IntKind.u64.wrap (x15_2 + (IntKind.u64.wrap (rd x1_1 (wrap64 ((x1_1.length : Int) - 1)))))))) else (none)) else (none)) = some (r1, r2, r3) := by rw [if_pos rfl] at H; exact H
                      clear H
                      have H := H1
                      clear H1
                      obtain ⟨ji51, hji51⟩ : ∃ j_ : Int, (wrap64 ((x1_1.length : Int) - 1)) = j_ := ⟨_, rfl⟩
                      (first | rw [hji51] at H | simp only [hji51] at H)
                      have hji51w : (IntKind.i64.wrap ((x1_1.length : Int) - 1)) = ji51 := (i64_w _).trans hji51
                      by_cases c52 : 0 ≤ (ji51)
                      case neg => rw [if_neg c52] at H; exact absurd H (by simp)
                      rw [if_pos c52] at H
                      have c52b0 : decide (0 ≤ (ji51)) = true := decide_eq_true c52
                      clear c52
                      by_cases c53 : (ji51) < (x1_1.length : Int)
                      case neg => rw [if_neg c53] at H; exact absurd H (by simp)
                      rw [if_pos c53] at H
                      have c53b0 : decide ((ji51) < (x1_1.length : Int)) = true := decide_eq_true c53
                      clear c53
                      by_cases c54 : (IntKind.u64.wrap (x15_2 + (IntKind.u64.wrap (rd x1_1 (ji51))))) ≥ 4294967296
                      · rw [if_pos c54] at H
                        have c54b0 : decide (4294967296 ≤ (IntKind.u64.wrap (x15_2 + (IntKind.u64.wrap (rd x1_1 (ji51)))))) = true := decide_eq_true c54
                        clear c54
                        have H' := A0_ H
                        clear H
                        have p225 : 0 ≤ ((ji51) : Int) := od_
                        have q225 : (ji51) < (x1_1.length : Int) := od_
                        obtain ⟨ad225, e225, hx225_0⟩ := Kd.at_int (Kd.V_reads' HO_1.out).2.2 (ji51) p225 q225
                        obtain rfl : ad221 = ad225 := (by injection e225)
                        replace p225 := eq_true p225
                        replace q225 := eq_true q225
                        go_wp2
                        go_meet
                        case rel => exact ⟨_, (IntKind.u64.wrap (x14_2 - 1)), rs_, H', ⟨by have := HK1.out; have := HK2.out; have := HJ39.out; first | omega | exact Nat.le_refl _⟩, ⟨by (try simp only [hl1_1]); (try simp only [hl9_1]); (with_reducible repeat (first | apply Kd.V_alloc | apply Kd.V_drewN | apply Kd.V_drew)); exact HO_1.out⟩, ⟨by (try simp only [hl1_1]); (try simp only [hl9_1]); (with_reducible repeat (first | apply Kd.R_alloc | apply Kd.R_drewN | apply Kd.R_drew)); exact HO_4.out⟩, ⟨by (try simp only [hl1_1]); (try simp only [hl9_1]); (with_reducible repeat (first | apply Kd.R_alloc | apply Kd.R_drewN | apply Kd.R_drew)); exact HO_9.out⟩, ⟨bl_⟩⟩
                      · rw [if_neg c54] at H
                        have c54b0 : decide (4294967296 ≤ (IntKind.u64.wrap (x15_2 + (IntKind.u64.wrap (rd x1_1 (ji51)))))) = false := decide_eq_false c54
                        clear c54
                        have H' := A0_ H
                        clear H
                        have p225 : 0 ≤ ((ji51) : Int) := od_
                        have q225 : (ji51) < (x1_1.length : Int) := od_
                        obtain ⟨ad225, e225, hx225_0⟩ := Kd.at_int (Kd.V_reads' HO_1.out).2.2 (ji51) p225 q225
                        obtain rfl : ad221 = ad225 := (by injection e225)
                        replace p225 := eq_true p225
                        replace q225 := eq_true q225
                        go_wp2
                        go_roundg kj39
                        case measure => have := HK1.out; have := HK2.out; have := HJ39.out; omega
                        case rel => exact ⟨(IntKind.u64.wrap (x14_2 - 1)), (IntKind.u64.wrap (x15_2 + (IntKind.u64.wrap (rd x1_1 (ji51))))), rs_, (by first | rfl | (simp; done) | (simp only [← hji51] <;> (first | rfl | simp)) | (simp [*]; done)), H', ⟨by have := HK1.out; have := HK2.out; have := HJ39.out; omega⟩, ⟨by (try simp only [hl1_1]); (try simp only [hl9_1]); (with_reducible repeat (first | apply Kd.V_alloc | apply Kd.V_drewN | apply Kd.V_drew)); exact HO_1.out⟩, ⟨by (try simp only [hl1_1]); (try simp only [hl9_1]); (with_reducible repeat (first | apply Kd.R_alloc | apply Kd.R_drewN | apply Kd.R_drew)); exact HO_4.out⟩, ⟨by (try simp only [hl1_1]); (try simp only [hl9_1]); (with_reducible repeat (first | apply Kd.R_alloc | apply Kd.R_drewN | apply Kd.R_drew)); exact HO_9.out⟩, ⟨bl_⟩⟩
                    · replace c50 := Bool.eq_false_iff.mpr c50
                      subst c50
                      have H1 : (quo_long.j3 kj39 x1_1 x4_1 t192 (x1_1.length : Int) x9_1 x12_1 x14_2) = some (r1, r2, r3) := by rw [if_neg (show ¬ (false = true) by decide)] at H; exact H
                      clear H
                      have H := H1
                      clear H1
                      have H' := A0_ H
                      clear H
                      go_wp2
                      go_meet
                      case rel => exact ⟨_, (x14_2), rs_, H', ⟨by have := HK1.out; have := HK2.out; have := HJ39.out; first | omega | exact Nat.le_refl _⟩, ⟨by (try simp only [hl1_1]); (try simp only [hl9_1]); (with_reducible repeat (first | apply Kd.V_alloc | apply Kd.V_drewN | apply Kd.V_drew)); exact HO_1.out⟩, ⟨by (try simp only [hl1_1]); (try simp only [hl9_1]); (with_reducible repeat (first | apply Kd.R_alloc | apply Kd.R_drewN | apply Kd.R_drew)); exact HO_4.out⟩, ⟨by (try simp only [hl1_1]); (try simp only [hl9_1]); (with_reducible repeat (first | apply Kd.R_alloc | apply Kd.R_drewN | apply Kd.R_drew)); exact HO_9.out⟩, ⟨bl_⟩⟩
          case rest =>
            clear HC37
            (try clear c1); (try clear p1); (try clear q1); (try clear hx1); (try clear c2); (try clear p2); (try clear q2); (try clear hx2); (try clear c3); (try clear c4); (try clear c4b0); (try clear c5); (try clear c5b0); (try clear p6); (try clear c9); (try clear c9b0); (try clear c9b1); (try clear c10); (try clear c10b0); (try clear c10b1); (try clear c14); (try clear c14b0); (try clear c14b1)
            (try clear c15); (try clear c15b0); (try clear c15b1); (try clear p19); (try clear q19); (try clear hx19); (try clear p21); (try clear q21); (try clear hx21); (try clear p22); (try clear q22); (try clear hx22); (try clear c24); (try clear c26); (try clear c26b0); (try clear c28); (try clear c28b0); (try clear c29); (try clear c29b0); (try clear c31); (try clear c31b0); (try clear c32); (try clear c32b0)
            (try clear c34); (try clear c34b0); (try clear c35); (try clear c35b0); (try clear c36); (try clear c36b0); (try clear c36b1); (try clear c41); (try clear c41b0); (try clear c41b1); (try clear c44); (try clear c44b0); (try clear c45); (try clear c45b0); (try clear c47); (try clear c47b0); (try clear c48); (try clear c48b0); (try clear c50); (try clear c52); (try clear c52b0); (try clear c53)
            (try clear c53b0); (try clear c54); (try clear c54b0); (try clear hx191_0); (try clear hx219_0); (try clear hx220_0); (try clear hx221_0); (try clear hx222_0); (try clear hx223_0); (try clear hx224_0); (try clear hx225_0); (try clear p1); (try clear p19); (try clear p191); (try clear p2); (try clear p21); (try clear p219); (try clear p22); (try clear p220); (try clear p221); (try clear p222)
            (try clear p223); (try clear p224); (try clear p225); (try clear p6); (try clear q1); (try clear q19); (try clear q191); (try clear q2); (try clear q21); (try clear q219); (try clear q22); (try clear q220); (try clear q221); (try clear q222); (try clear q223); (try clear q224); (try clear q225)
            obtain ⟨kq, x14_36, rfl, HA, HJ36, HO_1, HO_4, HO_9, HB⟩ := hcut
            cases kq with
            | zero => exact absurd HA.out (by simp [quo_long.j3])
            | succ kj36 =>
              have H := HA.out
              clear HA
              simp only [quo_long.j3] at H
              replace H := Option.bind_eq_some_iff.mp H
              obtain ⟨⟨t226, t227⟩, A550, H⟩ := H
              (try dsimp only at H)
              have A55 := A0_ A550
              clear A550
              by_cases c56 : t226 = true
              · subst c56
                have H1 : ((quo_give_at.f kj36 t227 x12_1 (wrap64 ((wrap64 (x12_1 + (x1_1.length : Int))) + 1)) x1_1).bind fun t228 => (if 0 ≤ x12_1 then (if x12_1 < (x4_1.length : Int) then (quo_long.l0 kj36 x1_1 (x4_1.set (x12_1 : Int).toNat ((IntKind.u64.wrap (x14_36 - 1)) % 4294967296)) t192 (x1_1.length : Int) t228 (wrap64 (x12_1 - 1))) else (none)) else (none))) = some (r1, r2, r3) := by rw [if_pos rfl] at H; exact H
                clear H
                have H := H1
                clear H1
                replace H := Option.bind_eq_some_iff.mp H
                obtain ⟨t228, A570, H⟩ := H
                (try dsimp only at H)
                have A57 := A0_ A570
                clear A570
                by_cases c58 : 0 ≤ x12_1
                case neg => rw [if_neg c58] at H; exact absurd H (by simp)
                rw [if_pos c58] at H
                have c58b0 : decide (0 ≤ x12_1) = true := decide_eq_true c58
                clear c58
                by_cases c59 : x12_1 < (x4_1.length : Int)
                case neg => rw [if_neg c59] at H; exact absurd H (by simp)
                rw [if_pos c59] at H
                have c59b0 : decide (x12_1 < (x4_1.length : Int)) = true := decide_eq_true c59
                clear c59
                obtain ⟨y229, hy229⟩ : ∃ y_ : List Int, y_ = (x4_1.set (x12_1 : Int).toNat ((IntKind.u64.wrap (x14_36 - 1)) % 4294967296)) := ⟨_, rfl⟩
                replace H : (quo_long.l0 kj36 x1_1 y229 t192 (x1_1.length : Int) t228 (wrap64 (x12_1 - 1))) = some (r1, r2, r3) := by first | (rw [hy229]; with_reducible exact H) | (rw [hy229]; exact H) | exact H
                have Ny229 := A0_ hy229
                clear hy229
                have H' := A0_ H
                clear H
                obtain ⟨fit0_, fit1_, fit2_⟩ := quo_take_at.fits A55.out
                obtain ⟨V_, HV_, hcut_⟩ := own_cut (P := Try.prog) 22 Try.underlying22 (by obtain ⟨i_, hi_, _, hz_, _⟩ := info_parts info37; rw [hi_]; simp [hz_]) HO_9.out x12_1 (wrap64 ((wrap64 (x12_1 + (x1_1.length : Int))) + 1)) fit0_ fit1_ fit2_
                clear fit0_ fit1_ fit2_
                go_wp2_with (first | ((with_reducible refine gate_callee (f := 47) rfl ?_); refine goesM_ (some 136) Try.func47 #[V_, .slice (some ad221) x1_1.length co17, .int .u64 x14_36] rfl ?_; (with_reducible refine (quo_take_at.calls kj36 (fun k_ => some k_ = (.slice (some ad219) x9_1.length co21 : Value).ownBlock) (.slice (some ad219) x9_1.length co21) x9_1 x12_1 (wrap64 ((wrap64 (x12_1 + (x1_1.length : Int))) + 1)) _ _ x1_1 x14_36 true t227 w _ ?side1 ?side2 ?side3 ?side4 A55.out V_ HV_.out).mono ?_); (case side1 => exact bl_); (case side2 => exact Kd.R_tight rfl HO_9.out); (case side3 => exact Kd.C_kept_ownV (HO_1.out) (fun k_ hk_ hs_ => (hk_.2.2) hs_)); (case side4 => exact (Kd.V_reads' HO_1.out).2.1); rintro e w61 ⟨rfl, hy0, hb, hkp⟩; refine ⟨_, rfl, ?_⟩; have n0_ := A0_ (Kd.V_mono (ok' := fun k_ => ((P0_ k_ ∨ P1_ k_) ∨ w.heap.size ≤ k_) ∧ some k_ ≠ (v207 : Value).ownBlock ∧ some k_ ≠ (.slice (some ad219) x9_1.length co21 : Value).ownBlock) (Kd.V_keptB (HO_1.out) hkp (fun k_ hk_ hs_ => (hk_.2.2) hs_)) (fun k_ hk_ => ⟨hk_.1.1, hk_.1.2.1, hk_.1.2.2⟩)); have n1_ := A0_ (Kd.R_mono (ok' := fun k_ => (w.heap.size ≤ k_) ∧ some k_ ≠ (.slice (some ad219) x9_1.length co21 : Value).ownBlock) (Kd.R_keptB (HO_4.out) hkp (fun k_ hk_ hs_ => (hk_.2) hs_)) (fun k_ hk_ => ⟨hk_.1.1, hk_.1.2⟩)); have n2_ := A0_ (Kd.R_reok rfl hy0 (fun k_ e_ => HO_9.out.1 k_ e_)); have n3_ := A0_ (hb); clear HO_1; clear HO_4; clear HO_9; clear HB; have HO_1 := n0_; have HO_4 := n1_; have HO_9 := n2_; have HB := n3_; clear n0_ n1_ n2_ n3_; (try clear hb); (try clear hkp); (try clear hy0)) | ((with_reducible refine gate_callee (f := 48) rfl ?_); refine goesM_ (some 147) Try.func48 #[V_, .slice (some ad221) x1_1.length co17] rfl ?_; (with_reducible refine (quo_give_at.calls kj36 (fun k_ => some k_ = (.slice (some ad219) x9_1.length co21 : Value).ownBlock) (.slice (some ad219) x9_1.length co21) t227 x12_1 (wrap64 ((wrap64 (x12_1 + (x1_1.length : Int))) + 1)) _ _ x1_1 t228 w _ ?side1 ?side2 ?side3 ?side4 A57.out V_ HV_.out).mono ?_); (case side1 => exact bl_); (case side2 => exact Kd.R_tight rfl HO_9.out); (case side3 => exact Kd.C_kept_ownV (HO_1.out) (fun k_ hk_ hs_ => (hk_.2.2) hs_)); (case side4 => exact (Kd.V_reads' HO_1.out).2.1); rintro e w62 ⟨rfl, hy0, hb, hkp⟩; refine ⟨_, rfl, ?_⟩; have n0_ := A0_ (Kd.V_mono (ok' := fun k_ => ((P0_ k_ ∨ P1_ k_) ∨ w.heap.size ≤ k_) ∧ some k_ ≠ (v207 : Value).ownBlock ∧ some k_ ≠ (.slice (some ad219) x9_1.length co21 : Value).ownBlock) (Kd.V_keptB (HO_1.out) hkp (fun k_ hk_ hs_ => (hk_.2.2) hs_)) (fun k_ hk_ => ⟨hk_.1.1, hk_.1.2.1, hk_.1.2.2⟩)); have n1_ := A0_ (Kd.R_mono (ok' := fun k_ => (w.heap.size ≤ k_) ∧ some k_ ≠ (.slice (some ad219) x9_1.length co21 : Value).ownBlock) (Kd.R_keptB (HO_4.out) hkp (fun k_ hk_ hs_ => (hk_.2) hs_)) (fun k_ hk_ => ⟨hk_.1.1, hk_.1.2⟩)); have n2_ := A0_ (Kd.R_reok rfl hy0 (fun k_ e_ => HO_9.out.1 k_ e_)); have n3_ := A0_ (hb); clear HO_1; clear HO_4; clear HO_9; clear HB; have HO_1 := n0_; have HO_4 := n1_; have HO_9 := n2_; have HB := n3_; clear n0_ n1_ n2_ n3_; (try clear hb); (try clear hkp); (try clear hy0); have p60 : 0 ≤ (x12_1 : Int) := od_; have q60 : (x12_1 : Int) < ((x4_1.length : Int) : Int) := od_; obtain ⟨go60, co60, eo60, gb60, gl60, cl60, HG60⟩ := Kd.R_form HO_4.out (by omega); (first | cases eo60 | (injection eo60 with ea_ en_ ec_; (first | subst ea_ | (injection ea_ with ea_; subst ea_)); subst ec_; clear en_)); have GB60 := A0_ gb60; have GG60 := A0_ HG60; clear gb60 gl60 HG60; obtain ⟨hx60_0, hf60_0⟩ := Kd.R_celln 0 HO_4.out (x12_1 : Int) p60 q60; replace p60 := eq_true p60; replace q60 := eq_true q60; obtain ⟨hy63_, hz63_⟩ := Kd.R_celln 0 HO_4.out (x12_1 : Int) od_ od_; have HP63 := Kd.R_putg HO_4.out (x12_1 : Int) ((IntKind.u64.wrap (x14_36 - 1)) % 4294967296)) | ((with_reducible refine gate_store (t := 37) (p := 152) rfl ?_); refine store_event (t := 37) (p := 152) (v := ?vo_w64) (w1 := (w62.setCell ⟨go60, (x12_1 : Int).toNat, none⟩ (.int .u32 ((IntKind.u64.wrap (x14_36 - 1)) % 4294967296)))) ?hg ?ho ?hn ?hr ?_; (case ho => rfl); (case hg => rfl); (case hn => rfl); (case hr => first | (go_simp; done) | (go_simp; rfl)); intro w64 hw; have hg : w62.grownBy w64 (some go60) := (by rw [hw]; exact HP63.2); have hp_ : Kd.R (Kd.int .u32) 37 w64 w.heap.size (fun k_ => (w.heap.size ≤ k_) ∧ some k_ ≠ (.slice (some ad219) x9_1.length co21 : Value).ownBlock) (.slice (some ⟨go60, 0, none⟩) x4_1.length co60) y229 := (by rw [hw, Ny229.out]; exact HP63.1); clear HP63; have n0_ := A0_ (Kd.V_afterv (v := (.slice (some ⟨go60, 0, none⟩) x4_1.length co60)) (v1 := (.slice (some ⟨go60, 0, none⟩) x4_1.length co60)) (ok := (fun k_ => ((P0_ k_ ∨ P1_ k_) ∨ w.heap.size ≤ k_) ∧ some k_ ≠ (.slice (some ad219) x9_1.length co21 : Value).ownBlock)) (mvV (Kd.V_mono HO_1.out (fun _ hk => ⟨⟨hk.1, hk.2.2⟩, hk.2.1⟩))) hg (.inl rfl)); have n1_ := A0_ (hp_); have n2_ := A0_ (Kd.R_after (v := (.slice (some ⟨go60, 0, none⟩) x4_1.length co60)) (v1 := (.slice (some ⟨go60, 0, none⟩) x4_1.length co60)) (ok := (fun k_ => (w.heap.size ≤ k_))) (mvR HO_9.out) hg (.inl rfl)); have n3_ := A0_ ((by rw [hw]; exact below_set (HB.out) GB60.out : Below w.heap.size w w64)); clear HO_1; clear HO_4; clear HO_9; clear HB; have HO_1 := n0_; have HO_4 := n1_; have HO_9 := n2_; have HB := n3_; clear n0_ n1_ n2_ n3_; clear hg hw hp_))
                (try rw [Exit.noGoto_normal])
                try go_wp2
                (try simp only [← hl1_1, ← hl9_1])
                go_roundg kj36
                case measure => have := HK1.out; have := HJ36.out; omega
                case rel => exact ⟨(x1_1), (y229), (t228), (wrap64 (x12_1 - 1)), rs_, (by first | exact H' | (simp only [hl1_1]; exact H')), ⟨by have := HK1.out; have := HJ36.out; omega⟩, ⟨by (try simp only [hl1_1]); (try simp only [hl9_1]); (with_reducible repeat (first | apply Kd.V_alloc | apply Kd.V_drewN | apply Kd.V_drew)); exact Kd.V_mono HO_1.out (fun _ hk => ⟨hk.1.1, ⟨hk.2, hk.1.2⟩⟩)⟩, ⟨by (try simp only [hl1_1]); (try simp only [hl9_1]); (with_reducible repeat (first | apply Kd.R_alloc | apply Kd.R_drewN | apply Kd.R_drew)); exact HO_4.out⟩, ⟨by (try simp only [hl1_1]); (try simp only [hl9_1]); (with_reducible repeat (first | apply Kd.R_alloc | apply Kd.R_drewN | apply Kd.R_drew)); exact HO_9.out⟩, ⟨bl_⟩⟩
              · replace c56 := Bool.eq_false_iff.mpr c56
                subst c56
                have H1 : (if 0 ≤ x12_1 then (if x12_1 < (x4_1.length : Int) then (quo_long.l0 kj36 x1_1 (x4_1.set (x12_1 : Int).toNat ((x14_36) % 4294967296)) t192 (x1_1.length : Int) t227 (wrap64 (x12_1 - 1))) else (none)) else (none)) = some (r1, r2, r3) := by rw [if_neg (show ¬ (false = true) by decide)] at H; exact H
                clear H
                have H := H1
                clear H1
                by_cases c65 : 0 ≤ x12_1
                case neg => rw [if_neg c65] at H; exact absurd H (by simp)
                rw [if_pos c65] at H
                have c65b0 : decide (0 ≤ x12_1) = true := decide_eq_true c65
                clear c65
                by_cases c66 : x12_1 < (x4_1.length : Int)
                case neg => rw [if_neg c66] at H; exact absurd H (by simp)
                rw [if_pos c66] at H
                have c66b0 : decide (x12_1 < (x4_1.length : Int)) = true := decide_eq_true c66
                clear c66
                obtain ⟨y230, hy230⟩ : ∃ y_ : List Int, y_ = (x4_1.set (x12_1 : Int).toNat ((x14_36) % 4294967296)) := ⟨_, rfl⟩
                replace H : (quo_long.l0 kj36 x1_1 y230 t192 (x1_1.length : Int) t227 (wrap64 (x12_1 - 1))) = some (r1, r2, r3) := by first | (rw [hy230]; with_reducible exact H) | (rw [hy230]; exact H) | exact H
                have Ny230 := A0_ hy230
                clear hy230
                have H' := A0_ H
                clear H
                obtain ⟨fit0_, fit1_, fit2_⟩ := quo_take_at.fits A55.out
                obtain ⟨V_, HV_, hcut_⟩ := own_cut (P := Try.prog) 22 Try.underlying22 (by obtain ⟨i_, hi_, _, hz_, _⟩ := info_parts info37; rw [hi_]; simp [hz_]) HO_9.out x12_1 (wrap64 ((wrap64 (x12_1 + (x1_1.length : Int))) + 1)) fit0_ fit1_ fit2_
                clear fit0_ fit1_ fit2_
                go_wp2_with (first | ((with_reducible refine gate_callee (f := 47) rfl ?_); refine goesM_ (some 136) Try.func47 #[V_, .slice (some ad221) x1_1.length co17, .int .u64 x14_36] rfl ?_; (with_reducible refine (quo_take_at.calls kj36 (fun k_ => some k_ = (.slice (some ad219) x9_1.length co21 : Value).ownBlock) (.slice (some ad219) x9_1.length co21) x9_1 x12_1 (wrap64 ((wrap64 (x12_1 + (x1_1.length : Int))) + 1)) _ _ x1_1 x14_36 false t227 w _ ?side1 ?side2 ?side3 ?side4 A55.out V_ HV_.out).mono ?_); (case side1 => exact bl_); (case side2 => exact Kd.R_tight rfl HO_9.out); (case side3 => exact Kd.C_kept_ownV (HO_1.out) (fun k_ hk_ hs_ => (hk_.2.2) hs_)); (case side4 => exact (Kd.V_reads' HO_1.out).2.1); rintro e w68 ⟨rfl, hy0, hb, hkp⟩; refine ⟨_, rfl, ?_⟩; have n0_ := A0_ (Kd.V_mono (ok' := fun k_ => ((P0_ k_ ∨ P1_ k_) ∨ w.heap.size ≤ k_) ∧ some k_ ≠ (v207 : Value).ownBlock ∧ some k_ ≠ (.slice (some ad219) x9_1.length co21 : Value).ownBlock) (Kd.V_keptB (HO_1.out) hkp (fun k_ hk_ hs_ => (hk_.2.2) hs_)) (fun k_ hk_ => ⟨hk_.1.1, hk_.1.2.1, hk_.1.2.2⟩)); have n1_ := A0_ (Kd.R_mono (ok' := fun k_ => (w.heap.size ≤ k_) ∧ some k_ ≠ (.slice (some ad219) x9_1.length co21 : Value).ownBlock) (Kd.R_keptB (HO_4.out) hkp (fun k_ hk_ hs_ => (hk_.2) hs_)) (fun k_ hk_ => ⟨hk_.1.1, hk_.1.2⟩)); have n2_ := A0_ (Kd.R_reok rfl hy0 (fun k_ e_ => HO_9.out.1 k_ e_)); have n3_ := A0_ (hb); clear HO_1; clear HO_4; clear HO_9; clear HB; have HO_1 := n0_; have HO_4 := n1_; have HO_9 := n2_; have HB := n3_; clear n0_ n1_ n2_ n3_; (try clear hb); (try clear hkp); (try clear hy0); have p67 : 0 ≤ (x12_1 : Int) := od_; have q67 : (x12_1 : Int) < ((x4_1.length : Int) : Int) := od_; obtain ⟨go67, co67, eo67, gb67, gl67, cl67, HG67⟩ := Kd.R_form HO_4.out (by omega); (first | cases eo67 | (injection eo67 with ea_ en_ ec_; (first | subst ea_ | (injection ea_ with ea_; subst ea_)); subst ec_; clear en_)); have GB67 := A0_ gb67; have GG67 := A0_ HG67; clear gb67 gl67 HG67; obtain ⟨hx67_0, hf67_0⟩ := Kd.R_celln 0 HO_4.out (x12_1 : Int) p67 q67; replace p67 := eq_true p67; replace q67 := eq_true q67; obtain ⟨hy69_, hz69_⟩ := Kd.R_celln 0 HO_4.out (x12_1 : Int) od_ od_; have HP69 := Kd.R_putg HO_4.out (x12_1 : Int) ((x14_36) % 4294967296)) | ((with_reducible refine gate_store (t := 37) (p := 152) rfl ?_); refine store_event (t := 37) (p := 152) (v := ?vo_w70) (w1 := (w68.setCell ⟨go67, (x12_1 : Int).toNat, none⟩ (.int .u32 ((x14_36) % 4294967296)))) ?hg ?ho ?hn ?hr ?_; (case ho => rfl); (case hg => rfl); (case hn => rfl); (case hr => first | (go_simp; done) | (go_simp; rfl)); intro w70 hw; have hg : w68.grownBy w70 (some go67) := (by rw [hw]; exact HP69.2); have hp_ : Kd.R (Kd.int .u32) 37 w70 w.heap.size (fun k_ => (w.heap.size ≤ k_) ∧ some k_ ≠ (.slice (some ad219) x9_1.length co21 : Value).ownBlock) (.slice (some ⟨go67, 0, none⟩) x4_1.length co67) y230 := (by rw [hw, Ny230.out]; exact HP69.1); clear HP69; have n0_ := A0_ (Kd.V_afterv (v := (.slice (some ⟨go67, 0, none⟩) x4_1.length co67)) (v1 := (.slice (some ⟨go67, 0, none⟩) x4_1.length co67)) (ok := (fun k_ => ((P0_ k_ ∨ P1_ k_) ∨ w.heap.size ≤ k_) ∧ some k_ ≠ (.slice (some ad219) x9_1.length co21 : Value).ownBlock)) (mvV (Kd.V_mono HO_1.out (fun _ hk => ⟨⟨hk.1, hk.2.2⟩, hk.2.1⟩))) hg (.inl rfl)); have n1_ := A0_ (hp_); have n2_ := A0_ (Kd.R_after (v := (.slice (some ⟨go67, 0, none⟩) x4_1.length co67)) (v1 := (.slice (some ⟨go67, 0, none⟩) x4_1.length co67)) (ok := (fun k_ => (w.heap.size ≤ k_))) (mvR HO_9.out) hg (.inl rfl)); have n3_ := A0_ ((by rw [hw]; exact below_set (HB.out) GB67.out : Below w.heap.size w w70)); clear HO_1; clear HO_4; clear HO_9; clear HB; have HO_1 := n0_; have HO_4 := n1_; have HO_9 := n2_; have HB := n3_; clear n0_ n1_ n2_ n3_; clear hg hw hp_))
                (try rw [Exit.noGoto_normal])
                try go_wp2
                (try simp only [← hl1_1, ← hl9_1])
                go_roundg kj36
                case measure => have := HK1.out; have := HJ36.out; omega
                case rel => exact ⟨(x1_1), (y230), (t227), (wrap64 (x12_1 - 1)), rs_, (by first | exact H' | (simp only [hl1_1]; exact H')), ⟨by have := HK1.out; have := HJ36.out; omega⟩, ⟨by (try simp only [hl1_1]); (try simp only [hl9_1]); (with_reducible repeat (first | apply Kd.V_alloc | apply Kd.V_drewN | apply Kd.V_drew)); exact Kd.V_mono HO_1.out (fun _ hk => ⟨hk.1.1, ⟨hk.2, hk.1.2⟩⟩)⟩, ⟨by (try simp only [hl1_1]); (try simp only [hl9_1]); (with_reducible repeat (first | apply Kd.R_alloc | apply Kd.R_drewN | apply Kd.R_drew)); exact HO_4.out⟩, ⟨by (try simp only [hl1_1]); (try simp only [hl9_1]); (with_reducible repeat (first | apply Kd.R_alloc | apply Kd.R_drewN | apply Kd.R_drew)); exact HO_9.out⟩, ⟨bl_⟩⟩
      · rw [if_neg c26] at H
        have c26b0 : decide (0 ≤ x12_1) = false := decide_eq_false c26
        clear c26
        replace H := Option.bind_eq_some_iff.mp H
        obtain ⟨t209, A710, H⟩ := H
        (try dsimp only at H)
        have A71 := A0_ A710
        clear A710
        by_cases c72 : 0 ≤ (x1_1.length : Int)
        case neg => rw [if_neg c72] at H; exact absurd H (by simp)
        rw [if_pos c72] at H
        have c72b0 := eq_true c72
        have c72b1 : decide (0 ≤ (x1_1.length : Int)) = true := decide_eq_true c72
        clear c72
        by_cases c73 : (x1_1.length : Int) ≤ (x9_1.length : Int)
        case neg => rw [if_neg c73] at H; exact absurd H (by simp)
        rw [if_pos c73] at H
        have c73b0 := eq_true c73
        have c73b1 : decide ((x1_1.length : Int) ≤ (x9_1.length : Int)) = true := decide_eq_true c73
        clear c73
        obtain ⟨y212, hy212⟩ : ∃ y_ : List Int, y_ = (x9_1.take ((x1_1.length : Int) : Int).toNat) := ⟨_, rfl⟩
        replace H : ((nat_Shr.f k1 y212 t192).bind fun t216 => (some (t209, t216, true))) = some (r1, r2, r3) := by first | (rw [hy212]; with_reducible exact H) | (rw [hy212]; exact H) | exact H
        have Ny212 := A0_ hy212
        clear hy212
        replace H := Option.bind_eq_some_iff.mp H
        obtain ⟨t216, A740, H⟩ := H
        (try dsimp only at H)
        have A74 := A0_ A740
        clear A740
        simp only [Option.some.injEq, Prod.mk.injEq] at H
        obtain ⟨rfl, rfl, rfl⟩ := H
        try go_wp2
        have n0_ := A0_ (Kd.V_drew HO_1.out)
        have n1_ := A0_ (Kd.R_drew HO_4.out)
        have n2_ := A0_ (Kd.R_drew HO_9.out)
        have n3_ := A0_ (below_drew1 HB.out)
        clear HO_1
        clear HO_4
        clear HO_9
        clear HB
        have HO_1 := n0_
        have HO_4 := n1_
        have HO_9 := n2_
        have HB := n3_
        clear n0_ n1_ n2_ n3_
        have q76 : ((x1_1.length : Int) : Int) ≤ ((x9_1.length : Int) : Int) := od_
        obtain ⟨i076, hi076, _, hsz76, _⟩ := info_parts info37
        have hroom76 : x9_1.length ≤ co21 := (Kd.R_reads' HO_9.out).2.1
        have hC76 : Kd.C (Kd.int .u32) _ Ao21 x9_1.length x9_1 := (Kd.R_reads' HO_9.out).2.2
        have hcut76 := cut_to (P := Try.prog) 22 37 .i64 Try.underlying22 hi076 Ao21 x9_1.length co21 (x1_1.length : Int) od_ q76 hroom76
        have hr76 := Kd.C_take (m := ((x1_1.length : Int) : Int).toNat) hC76 (by omega)
        have hy76 : y212.length = ((x1_1.length : Int) : Int).toNat := (by rw [Ny212.out, List.length_take]; omega)
        rw [← Ny212.out] at hr76
        rw [← hy76] at hcut76
        have HR215 := A0_ hr76
        have HC215 := A0_ (show y212.length ≤ co21 from by omega)
        clear hr76 hC76 hroom76 hi076 hsz76
        have KY76 := A0_ hy76
        clear hy76
        have KL76 := A0_ (show ((x1_1.length : Int) : Int).toNat ≤ x9_1.length from by omega)
        replace q76 := eq_true q76
        obtain ⟨Ao77, co77, eo77⟩ := Kd.R_slice HO_4.out
        (first | subst eo77 | (injection eo77 with f1_ f2_ f3_; have f4_ := f1_.symm; have f5_ := f3_.symm; clear f1_ f2_ f3_; subst f4_; subst f5_))
        refine start_ (n := 10) (S := fun w' => True) (ds := []) #[false, false, false, false, false, false, false, false, false, false] (by kernel_rfl) rfl rfl trivial (fun hHeld => ?_); refine with_tabW quo_long.tab21 quo_long.bits21 (fun HT_ HW_ => ?_)
        generalize wr.drew = w75 at HO_1 HO_4 HO_9 HB HR215 hHeld ⊢
        refine pureM_ 0 (some 153) (any_of HT_.out (by kernel_rfl)) ?_
        refine pureM_ 2 (some 155) (any_of HT_.out (by kernel_rfl)) ?_
        refine pureM_ 3 (some 156) (any_of HT_.out (by kernel_rfl)) ?_
        refine pureM_ 4 (some 157) (any_of HT_.out (by kernel_rfl)) ?_
        refine pureM_ 5 (some 158) (any_of HT_.out (by kernel_rfl)) ?_
        refine one_ (i := 1) (N := some 154) #[true, true, true, true, true, true, false, false, false, false] rfl rfl (one_of HT_.out (by kernel_rfl)) (by decide) (fun K hK => ?_)
        refine goes_ Try.func22 (by kernel_rfl) rfl #[.slice Ao77 x4_1.length co77] (by rfl) rfl rfl (by (try simp only [List.map_toArray, List.map_cons, List.map_nil]); first | done | rfl | (simp only [List.length_drop, List.length_take]; rfl)) ?_
        with_reducible refine (nat_Trim.calls k1 _ _ x4_1 t209 _ ?side1 ?side2 A71.out).mono ?_
        (case side1 => exact mvC (Kd.R_reads' HO_4.out).2.2)
        (case side2 => exact (Kd.R_reads' HO_4.out).2.1)
        rintro e w78 ⟨v210, rfl, ho0, hb⟩
        refine ⟨_, rfl, ?_⟩
        have n0_ := A0_ (Kd.V_elder' (mvV HO_1.out) (Kd.R_base ho0) hb)
        have n1_ := A0_ (Kd.R_elder' (mvR HO_4.out) (Kd.R_base ho0) hb)
        have n2_ := A0_ (Kd.R_elder' (mvR HO_9.out) (Kd.R_base ho0) hb)
        have n3_ := A0_ (Kd.R_lower (Kd.R_new' (Kd.R_new' (Kd.R_newM (M := fun k_ => (w.heap.size ≤ k_)) ho0 (below_size bl_) (fun k_ h_ => h_)) (Kd.R_lt (mvR HO_4.out))) (Kd.R_lt (mvR HO_9.out))) (below_size bl_))
        have n4_ := A0_ (Kd.C_below (by repeat (first | (with_reducible exact HR215.out) | (with_reducible refine Kd.C_alloc ?_ _) | (with_reducible refine Kd.C_drewN ?_ _) | (with_reducible refine Kd.C_drew ?_) | exact HR215.out)) hb)
        have n5_ := A0_ (below_step bl_ hb)
        clear HO_1
        clear HO_4
        clear HO_9
        clear HR215
        clear HB
        have HO_1 := n0_
        have HO_4 := n1_
        have HO_9 := n2_
        have HO211 := n3_
        have HR215 := n4_
        have HB := n5_
        clear n0_ n1_ n2_ n3_ n4_ n5_
        (try clear hb)
        (try clear hb2)
        (try clear hk)
        (try clear hi)
        (try clear ho0)
        refine hK.out _ _ trivial (fun hHeld => ?_)
        clear hK K
        refine norm_ (a' := ?_) ?_ ?_
        rotate_left
        · show Act.put _ (some 154) _ = _
          simp only [Act.put, List.setIfInBounds_toArray, List.set_cons_zero, List.set_cons_succ, i64_w, i32_w]
          rfl
        refine one_ (i := 6) (N := some 159) #[true, true, true, true, true, true, true, false, false, false] rfl rfl (one_of HT_.out (by kernel_rfl)) (by decide) (fun K hK => ?_)
        refine goes_ Try.func25 (by kernel_rfl) rfl #[.slice Ao21 y212.length co21, .int .i64 t192] (by rfl) rfl rfl (by (try simp only [List.map_toArray, List.map_cons, List.map_nil]); first | done | rfl | (simp only [List.length_drop, List.length_take]; rfl)) ?_
        with_reducible refine (nat_Shr.calls k1 (fun k_ => some k_ = (.slice Ao21 x9_1.length co21 : Value).ownBlock) _ _ y212 t192 t216 _ ?side1 A74.out).mono ?_
        (case side1 => exact Kd.R_V (by have h_ := Kd.R_take (m := y212.length) (Kd.R_tight rfl HO_9.out) (by have := KY76.out; have := KL76.out; omega); rw [show x9_1.take y212.length = y212 from by rw [KY76.out]; exact Ny212.out.symm] at h_; exact h_))
        rintro e w79 ⟨v217, rfl, ho0, hb⟩
        refine ⟨_, rfl, ?_⟩
        have n0_ := A0_ (Kd.V_below (mvV HO_1.out) hb)
        have n1_ := A0_ (Kd.R_below (mvR HO_4.out) hb)
        have n2_ := A0_ (Kd.R_below (mvR HO_9.out) hb)
        have n3_ := A0_ (Kd.R_below (mvR HO211.out) hb)
        have n4_ := A0_ (Kd.V_lower (Kd.V_mono (ok' := fun k_ => ((P0_ k_ ∨ P1_ k_) ∨ w.heap.size ≤ k_) ∧ some k_ ≠ (.slice Ao77 x4_1.length co77 : Value).ownBlock ∧ some k_ ≠ (v210 : Value).ownBlock) ho0 (fun k_ hk_ => ⟨Or.elim hk_ (fun hs_ => (.inr (((HO_9.out).1 k_ hs_.symm).1.1))) (fun hn_ => (.inr (Nat.le_trans (below_size bl_) hn_))), Or.elim hk_ (fun hs_ => ((HO_9.out).1 k_ hs_.symm).1.2) (fun hn_ => (Kd.fresh' (Kd.R_lt (mvR HO_4.out)) k_ hn_)), Or.elim hk_ (fun hs_ => ((HO_9.out).1 k_ hs_.symm).2) (fun hn_ => (Kd.fresh' (Kd.R_lt (mvR HO211.out)) k_ hn_))⟩)) (below_size bl_))
        have n5_ := A0_ (Kd.C_below (by repeat (first | (with_reducible exact HR215.out) | (with_reducible refine Kd.C_alloc ?_ _) | (with_reducible refine Kd.C_drewN ?_ _) | (with_reducible refine Kd.C_drew ?_) | exact HR215.out)) hb)
        have n6_ := A0_ (below_step bl_ hb)
        clear HO_1
        clear HO_4
        clear HO_9
        clear HO211
        clear HR215
        clear HB
        have HO_1 := n0_
        have HO_4 := n1_
        have HO_9 := n2_
        have HO211 := n3_
        have HO218 := n4_
        have HR215 := n5_
        have HB := n6_
        clear n0_ n1_ n2_ n3_ n4_ n5_ n6_
        (try clear hb)
        (try clear hb2)
        (try clear hk)
        (try clear hi)
        (try clear ho0)
        refine hK.out _ _ trivial (fun hHeld => ?_)
        clear hK K
        refine norm_ (a' := ?_) ?_ ?_
        rotate_left
        · show Act.put _ (some 159) _ = _
          simp only [Act.put, List.setIfInBounds_toArray, List.set_cons_zero, List.set_cons_succ, i64_w, i32_w]
          rfl
        refine pureM_ 7 (some 4) (any_of HT_.out (by kernel_rfl)) ?_
        refine pureM_ 8 (some 5) (any_of HT_.out (by kernel_rfl)) ?_
        refine pureM_ 9 (some 6) (any_of HT_.out (by kernel_rfl)) ?_
        refine done_ (done_of HT_.out (by kernel_rfl)) ?_
        try go_wp2
        go_ret3
        exact ⟨_, _, by first | rfl | (simp [errW_none, errW_some] <;> rfl) | (simp only [← hji3, ← hji8, ← hji13]; first | rfl | (simp [errW_none, errW_some] <;> rfl)) | (simp [*, errW_none, errW_some] <;> rfl), mvR (Kd.R_mono HO211.out (fun _ hk => hk.1.1.1)), mvV (Kd.V_mono HO218.out (fun _ hk => ⟨hk.1, hk.2.2⟩)), bl_⟩

end Go.Proofs.Ytohkjfdcmiiehaa.P
