/- A multiple of a number taken from another one, in place, and added again. -/
import Derived.Test.YtohkjfdcmiiehaaP3
import Derived.Test.YtohkjfdcmiiehaaP8
import Derived.Test.YtohkjfdcmiiehaaP9
import Derived.Test.YtohkjfdcmiiehaaQa
namespace Go.Proofs.Ytohkjfdcmiiehaa.Sp
open Go.RowKit Go.Proofs.Ytohkjfdcmiiehaa.P Go.Proofs.Ytohkjfdcmiiehaa.Num Go.Proofs.YtohkjfdcmiiehaaW.PrintWords Go.Proofs.YtohkjfdcmiiehaaW.PrintLast Go.Proofs.YtohkjfdcmiiehaaW.PrintMore

theorem Sub32_n {x y w : Nat} (hx : x < 4294967296) (hy : y < 4294967296) (hw : w ≤ 1) : ∃ z t : Nat, bits_Sub32.f (x : Int) (y : Int) (w : Int) = some ((z : Int), (t : Int)) ∧ z < 4294967296 ∧ t ≤ 1 ∧ z + y + w = x + 4294967296 * t := by
  refine ⟨(((x : Int) - y - w) % 4294967296).toNat, if x < y + w then 1 else 0, ?_, by omega, by split <;> omega, by split <;> omega⟩
  rw [Sub32_eq (by omega) (by omega) (by omega)]
  congr 2
  · omega
  · split <;> split <;> omega

theorem Add32_n {x y w : Nat} (hx : x < 4294967296) (hy : y < 4294967296) (hw : w ≤ 1) : ∃ z t : Nat, bits_Add32.f (x : Int) (y : Int) (w : Int) = some ((z : Int), (t : Int)) ∧ z < 4294967296 ∧ t ≤ 1 ∧ z + 4294967296 * t = x + y + w := by
  refine ⟨(x + y + w) % 4294967296, (x + y + w) / 4294967296, ?_, by omega, by omega, by omega⟩
  rw [Add32_eq (by omega) (by omega) (by omega)]
  congr 2

theorem dig_nat {l : List Int} (h : Dig l) (i : Nat) : ∃ x : Nat, l.getD i 0 = (x : Int) ∧ x < 4294967296 := by
  have := Dig_getD h i
  exact ⟨(l.getD i 0).toNat, by omega, by omega⟩

theorem take_alg {U U' W V P ui z low w t c c' bi g : Nat} (h : U + W = V + P * (c + w)) (hs : U' + P * ui = U + P * z) (h1 : z + low + w = ui + 4294967296 * t) (h2 : bi * g + c = low + 4294967296 * c') :
    U' + (W + g * (P * bi)) = V + P * 4294967296 * (c' + t) := by
  have a1 : P * z + P * low + P * w = P * ui + P * (4294967296 * t) := by rw [← Nat.mul_add, ← Nat.mul_add, h1, Nat.mul_add]
  have a2 : P * (bi * g) + P * c = P * low + P * (4294967296 * c') := by rw [← Nat.mul_add, h2, Nat.mul_add]
  have a3 : g * (P * bi) = P * (bi * g) := by rw [Nat.mul_left_comm, Nat.mul_comm g bi]
  have a4 : P * 4294967296 * (c' + t) = P * (4294967296 * c') + P * (4294967296 * t) := by rw [Nat.mul_assoc, Nat.mul_add, Nat.mul_add]
  rw [Nat.mul_add] at h
  rw [a3, a4]
  clear h1 h2 a3 a4
  generalize P * z = p1 at *
  generalize P * low = p2 at *
  generalize P * w = p3 at *
  generalize P * ui = p4 at *
  generalize P * (4294967296 * t) = p5 at *
  generalize P * (bi * g) = p6 at *
  generalize P * c = p7 at *
  generalize P * (4294967296 * c') = p8 at *
  omega

theorem take_loop {b : List Int} (hb : Dig b) {g V : Nat} (hg : g < 4294967296) (hlb : b.length ≤ 100000000) :
    ∀ (d i : Nat) (u : List Int) (c w : Nat), d + i = b.length → u.length = b.length + 1 → Dig u → c < 4294967296 → w ≤ 1 → val u + g * val (b.take i) = V + 4294967296 ^ i * (c + w) →
      ∃ (R : List Int) (t : Nat), Ev (fun k => quo_take.l0 k u b (g : Int) (c : Int) (w : Int) b (b.length : Int) (i : Int)) (decide (t = 1), R) ∧ t ≤ 1 ∧ R.length = b.length + 1 ∧ Dig R ∧ val R + g * val b = V + 4294967296 ^ (b.length + 1) * t := by
  intro d
  induction d with
  | zero =>
    intro i u c w hd hu hdu hc hw hv
    have e : i = b.length := by omega
    subst e
    rw [take_all_val] at hv
    obtain ⟨x, hx, hxl⟩ := dig_nat hdu b.length
    obtain ⟨z, t, hS, hz, ht, hzt⟩ := Sub32_n hxl hc hw
    have hs := val_set u b.length (z : Int) (by omega)
    rw [hx, Int.toNat_natCast, Int.toNat_natCast] at hs
    refine ⟨u.set b.length (z : Int), t, ?_, ht, by rw [List.length_set]; exact hu, Dig_set hdu _ (by omega), ?_⟩
    · refine Ev.step (f := fun _ => some (decide (t = 1), u.set b.length (z : Int))) (fun k => ?_) (Ev.now _)
      clear hv hs
      have hcm : (c : Int) % 4294967296 = (c : Int) := by omega
      have i2 : (b.length : Int) < (u.length : Int) := by omega
      have e1 : (decide ((t : Int) > 0)) = decide (t = 1) := by
        rcases (show t = 0 ∨ t = 1 by omega) with rfl | rfl <;> rfl
      simp only [quo_take.l0]
      rw [if_neg (Int.lt_irrefl _), if_pos (Int.natCast_nonneg _), if_pos i2, rd_nat, hx, hcm, hS]
      simp only [Option.bind_some]
      rw [e1, Int.toNat_natCast]
    · have := take_alg (g := 0) (bi := 0) (c' := 0) (W := g * val b) (low := c) hv hs hzt (by omega)
      rw [Nat.pow_succ]
      rw [Nat.zero_mul, Nat.add_zero, Nat.zero_add] at this
      exact this
  | succ d ih =>
    intro i u c w hd hu hdu hc hw hv
    obtain ⟨x, hx, hxl⟩ := dig_nat hdu i
    obtain ⟨y, hy, hyl⟩ := dig_nat hb i
    have hm : y * g ≤ 4294967295 * 4294967295 := Nat.mul_le_mul (by omega) (by omega)
    obtain ⟨s, hse⟩ : ∃ s, s = y * g + c := ⟨_, rfl⟩
    have hcast : (y : Int) * (g : Int) = ((y * g : Nat) : Int) := (Int.natCast_mul y g).symm
    have hsl : s < 18446744073709551616 := by
      generalize y * g = p at hm hse
      omega
    have hpl : y * g < 18446744073709551616 := by
      generalize y * g = p at hm
      omega
    have hlow : s % 4294967296 < 4294967296 := Nat.mod_lt _ (by decide)
    have hhi : s / 4294967296 < 4294967296 := by clear hse hm hpl; omega
    obtain ⟨z, t, hS, hz, ht, hzt⟩ := Sub32_n hxl hlow hw
    have hs := val_set u i (z : Int) (by omega)
    rw [hx, Int.toNat_natCast, Int.toNat_natCast] at hs
    have ha := take_alg (g := g) (bi := y) (c' := s / 4294967296) (W := g * val (b.take i)) hv hs hzt (by rw [← hse]; exact (Nat.mod_add_div s 4294967296).symm)
    obtain ⟨R, t', hR, r1, r2, r3, r4⟩ := ih (i + 1) (u.set i (z : Int)) (s / 4294967296) t (by omega) (by rw [List.length_set]; exact hu) (Dig_set hdu _ (by omega)) hhi ht (by
      rw [val_take_succ, hy, Int.toNat_natCast, Nat.mul_add, Nat.pow_succ]
      exact ha)
    refine ⟨R, t', ?_, r1, r2, r3, r4⟩
    refine Ev.step (fun k => ?_) hR
    clear ha hs hv hR r4
    have i1 : (i : Int) < (b.length : Int) := by omega
    have i2 : (i : Int) < (u.length : Int) := by omega
    have hw2 : wrap64 ((i : Int) + 1) = ((i + 1 : Nat) : Int) := by rw [w64] <;> omega
    have g1 : IntKind.u64.wrap (IntKind.u64.wrap (IntKind.u64.wrap (y : Int) * (g : Int)) + (c : Int)) = (s : Int) := by
      rw [u64 (x := (y : Int)) (by omega) (by omega), hcast]
      generalize y * g = p at hse hpl
      rw [u64 (x := (p : Int)) (by omega) (by omega), u64 (by omega) (by omega)]
      omega
    have g2 : (s : Int) % 4294967296 = ((s % 4294967296 : Nat) : Int) := by omega
    have g3 : (s : Int) / 4294967296 = ((s / 4294967296 : Nat) : Int) := by omega
    simp only [quo_take.l0]
    rw [if_pos i1, if_pos (Int.natCast_nonneg _), if_pos i1, if_pos i2, rd_nat, rd_nat, hx, hy, g1, g2, g3, hS]
    simp only [Option.bind_some]
    rw [hw2, Int.toNat_natCast]

theorem take_sp {u b : List Int} (hu : Dig u) (hb : Dig b) {g : Nat} (hg : g < 4294967296) (hl : u.length = b.length + 1) (hlb : b.length ≤ 100000000) :
    ∃ (R : List Int) (t : Nat), Ev (fun k => quo_take.f k u b (g : Int)) (decide (t = 1), R) ∧ t ≤ 1 ∧ R.length = b.length + 1 ∧ Dig R ∧ val R + g * val b = val u + 4294967296 ^ (b.length + 1) * t :=
  take_loop hb (V := val u) hg hlb b.length 0 u 0 0 rfl hl hu (by decide) (by decide) (by rw [take_zero_val, Nat.mul_zero, Nat.mul_zero])

theorem give_alg {U U' W V P ui z w t bi : Nat} (h : U + P * w = V + W) (hs : U' + P * ui = U + P * z) (h1 : z + 4294967296 * t = ui + bi + w) :
    U' + P * 4294967296 * t = V + (W + P * bi) := by
  have a1 : P * z + P * (4294967296 * t) = P * ui + P * bi + P * w := by rw [← Nat.mul_add, h1, Nat.mul_add, Nat.mul_add]
  rw [Nat.mul_assoc]
  clear h1
  generalize P * z = p1 at *
  generalize P * w = p3 at *
  generalize P * ui = p4 at *
  generalize P * (4294967296 * t) = p5 at *
  generalize P * bi = p6 at *
  omega

theorem give_loop {b : List Int} (hb : Dig b) {V : Nat} (hlb : b.length ≤ 100000000) :
    ∀ (d i : Nat) (u : List Int) (w : Nat), d + i = b.length → u.length = b.length + 1 → Dig u → w ≤ 1 → val u + 4294967296 ^ i * w = V + val (b.take i) →
      ∃ (R : List Int) (t : Nat), Ev (fun k => quo_give.l0 k u b (w : Int) b (b.length : Int) (i : Int)) R ∧ t ≤ 1 ∧ R.length = b.length + 1 ∧ Dig R ∧ val R + 4294967296 ^ (b.length + 1) * t = V + val b := by
  intro d
  induction d with
  | zero =>
    intro i u w hd hu hdu hw hv
    have e : i = b.length := by omega
    subst e
    rw [take_all_val] at hv
    obtain ⟨x, hx, hxl⟩ := dig_nat hdu b.length
    have hs := val_set u b.length (((x + w) % 4294967296 : Nat) : Int) (by omega)
    rw [hx, Int.toNat_natCast, Int.toNat_natCast] at hs
    refine ⟨u.set b.length (((x + w) % 4294967296 : Nat) : Int), (x + w) / 4294967296, ?_, by clear hv hs; omega, by rw [List.length_set]; exact hu, Dig_set hdu _ (nat_mod_bd _), ?_⟩
    · refine Ev.step (f := fun _ => some (u.set b.length (((x + w) % 4294967296 : Nat) : Int))) (fun k => ?_) (Ev.now _)
      clear hv hs
      have i2 : (b.length : Int) < (u.length : Int) := by omega
      have hcm : ((x : Int) + (w : Int)) % 4294967296 = (((x + w) % 4294967296 : Nat) : Int) := by omega
      simp only [quo_give.l0]
      rw [if_neg (Int.lt_irrefl _), if_pos (Int.natCast_nonneg _), if_pos i2, rd_nat, hx, hcm, Int.toNat_natCast]
    · have := give_alg (bi := 0) (t := (x + w) / 4294967296) hv hs (by clear hv hs; omega)
      rw [Nat.mul_zero, Nat.add_zero] at this
      rw [Nat.pow_succ]
      exact this
  | succ d ih =>
    intro i u w hd hu hdu hw hv
    obtain ⟨x, hx, hxl⟩ := dig_nat hdu i
    obtain ⟨y, hy, hyl⟩ := dig_nat hb i
    obtain ⟨z, t, hS, hz, ht, hzt⟩ := Add32_n hxl hyl hw
    have hs := val_set u i (z : Int) (by omega)
    rw [hx, Int.toNat_natCast, Int.toNat_natCast] at hs
    have ha := give_alg hv hs hzt
    obtain ⟨R, t', hR, r1, r2, r3, r4⟩ := ih (i + 1) (u.set i (z : Int)) t (by omega) (by rw [List.length_set]; exact hu) (Dig_set hdu _ (by omega)) ht (by
      rw [val_take_succ, hy, Int.toNat_natCast, Nat.pow_succ]
      exact ha)
    refine ⟨R, t', ?_, r1, r2, r3, r4⟩
    refine Ev.step (fun k => ?_) hR
    clear ha hs hv hR r4
    have i1 : (i : Int) < (b.length : Int) := by omega
    have i2 : (i : Int) < (u.length : Int) := by omega
    have hw2 : wrap64 ((i : Int) + 1) = ((i + 1 : Nat) : Int) := by rw [w64] <;> omega
    simp only [quo_give.l0]
    rw [if_pos i1, if_pos (Int.natCast_nonneg _), if_pos i1, if_pos i2, rd_nat, rd_nat, hx, hy, hS]
    simp only [Option.bind_some]
    rw [hw2, Int.toNat_natCast]

theorem give_sp {u b : List Int} (hu : Dig u) (hb : Dig b) (hl : u.length = b.length + 1) (hlb : b.length ≤ 100000000) :
    ∃ (R : List Int) (t : Nat), Ev (fun k => quo_give.f k u b) R ∧ t ≤ 1 ∧ R.length = b.length + 1 ∧ Dig R ∧ val R + 4294967296 ^ (b.length + 1) * t = val u + val b :=
  give_loop hb (V := val u) hlb b.length 0 u 0 rfl hl hu (by decide) (by rw [take_zero_val, Nat.mul_zero])

/-- The three parts of a row. -/
theorem val_parts {X Y Z : List Int} {j m : Nat} (hX : X.length = j) (hY : Y.length = m) : val (X ++ (Y ++ Z)) = val X + 4294967296 ^ j * (val Y + 4294967296 ^ m * val Z) := by
  rw [val_append, val_append, hX, hY]

end Go.Proofs.Ytohkjfdcmiiehaa.Sp
