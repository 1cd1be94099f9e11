/- The examples of chapter 3, and small facts. -/
import Derived.Test.YtohkjfdcmiiehaaP15
import Derived.Test.YtohkjfdcmiiehaaQg
namespace Go.Proofs.Ytohkjfdcmiiehaa.Sp
open Go.RowKit Go.Proofs.Ytohkjfdcmiiehaa.P Go.Proofs.Ytohkjfdcmiiehaa.Num Go.Proofs.YtohkjfdcmiiehaaW.PrintWords Go.Proofs.YtohkjfdcmiiehaaW.PrintLast Go.Proofs.YtohkjfdcmiiehaaW.PrintMore

theorem bl_zero {x : Nat} : bl x = 0 ↔ x = 0 := by
  constructor
  · intro h; have := bl_le.1 (Nat.le_of_eq h); omega
  · intro h; subst h; rfl
theorem bl_no {x : Nat} (h : x ≠ 0) : ¬ (bl x : Int) = 0 := fun h1 => h (bl_zero.1 (by omega))
theorem bl_yes {x : Nat} (h : x = 0) : (bl x : Int) = 0 := by rw [h]; rfl
theorem cmp_le (x y : Nat) : cmp x y ≤ 0 ↔ x ≤ y := by
  unfold cmp
  by_cases h : x < y
  · rw [if_pos h]; exact ⟨fun _ => Nat.le_of_lt h, fun _ => by decide⟩
  · rw [if_neg h]
    by_cases h2 : x = y
    · rw [if_pos h2]; exact ⟨fun _ => Nat.le_of_eq h2, fun _ => by decide⟩
    · rw [if_neg h2]; exact ⟨fun h3 => absurd h3 (by decide), fun h3 => absurd (Nat.lt_of_le_of_ne h3 h2) h⟩
theorem rt_self (x : Nat) : rt x ≤ x := Nat.le_trans (Nat.le_mul_self _) (rt_sp x).1
theorem rt_mono {x y : Nat} (h : x ≤ y) : rt x ≤ rt y := rt_le (Nat.le_trans (rt_sp x).1 h)
theorem rt_sq (x : Nat) : rt (x * x) = x := (rt_eq (Nat.le_refl _) (Nat.mul_lt_mul'' (Nat.lt_succ_self x) (Nat.lt_succ_self x))).symm
theorem rest_le (x : Nat) : x - rt x * rt x ≤ rt x + rt x := by
  have h := (rt_sp x).2
  have e : (rt x + 1) * (rt x + 1) = rt x * rt x + 2 * rt x + 1 := by grind
  rw [e] at h
  generalize rt x * rt x = q at h ⊢
  omega
theorem rt_four (x : Nat) : rt x + rt x ≤ rt (x * 2 ^ 2) ∧ rt (x * 2 ^ 2) - (rt x + rt x) ≤ 1 := by
  obtain ⟨h1, h2⟩ := rt_sp x
  obtain ⟨h3, h4⟩ := rt_sp (x * 2 ^ 2)
  constructor
  · apply rt_le
    have e : (rt x + rt x) * (rt x + rt x) = rt x * rt x * 4 := by grind
    rw [e]
    exact Nat.mul_le_mul_right 4 h1
  · have : rt (x * 2 ^ 2) ≤ rt x + rt x + 1 := by
      apply sq_le
      refine Nat.lt_of_le_of_lt h3 ?_
      have e : (rt x + rt x + 1 + 1) * (rt x + rt x + 1 + 1) = (rt x + 1) * (rt x + 1) * 4 := by grind
      rw [e]
      exact Nat.mul_lt_mul_of_pos_right h2 (by decide)
    omega
theorem nilN : Nm [] 0 0 := ⟨Dig_nil, rfl, Nat.le_refl _⟩

theorem fold_neg3 {n : Int} (h : (Lit.int .i64 n).wf = true) : ∃ m : Nat, m ≤ 9223372036854775807 ∧ (if n < 0 then wrap64 (-(wrap64 (n + 1))) else n) = (m : Int) := by
  simp only [Lit.wf, IntKind.min, IntKind.max, IntKind.signed, IntKind.bits, Bool.and_eq_true] at h
  simp at h
  by_cases h0 : n < 0
  · refine ⟨(-(n + 1)).toNat, by omega, ?_⟩
    rw [if_pos h0, w64 (x := n + 1) (by omega) (by omega), w64 (by omega) (by omega)]
    omega
  · exact ⟨n.toNat, by omega, by rw [if_neg h0]; omega⟩

theorem digits03_loop (a : List Int) (hn : a.length ≤ 1000000000) : ∀ (d i : Nat), d + i = a.length → Ev (fun k => astrolabelaw03_digits.l0 k a a i) true := by
  intro d
  induction d with
  | zero =>
    intro i hi
    refine Ev.step (f := fun _ => some true) (fun k => ?_) (Ev.now _)
    simp only [astrolabelaw03_digits.l0]
    rw [if_neg (by omega)]
  | succ d ih =>
    intro i hi
    refine Ev.step (fun k => ?_) (ih (i + 1) (by omega))
    have hw : wrap64 ((i : Int) + 1) = ((i + 1 : Nat) : Int) := by rw [w64] <;> omega
    simp only [astrolabelaw03_digits.l0]
    rw [if_pos (by omega), if_pos (by omega), if_pos (by omega), if_pos trivial, hw]

theorem digits03_t {a b : List Int} (h : a = b) (hn : a.length ≤ 1000000000) : Ev (fun k => astrolabelaw03_digits.f k a b) true := by
  subst h
  refine Ev.congr (fun k => ?_) (digits03_loop a hn a.length 0 (by omega))
  unfold astrolabelaw03_digits.f
  rw [if_pos rfl]
  rfl

theorem digits03_n {x y n : Nat} {l : List Int} (hx : Nm l x n) (h : x = y) (hn : n ≤ 1000000000) : Ev (fun k => astrolabelaw03_digits.f k (dg x) (dg y)) true :=
  digits03_t (by rw [h]) (Nat.le_trans hx.dg.len hn)

theorem examples03 : Ev (fun k => astrolabelaw03_examples.f k) true := by
  unfold astrolabelaw03_examples.f
  have e1 : ((0 : Int).toNat + 4294967296 * ((0 : Int).toNat + 4294967296 * (1 : Int).toNat)) / (10 : Int).toNat = 2576980377 + 4294967296 * 429496729 := by decide
  have e2 : ((0 : Int).toNat + 4294967296 * ((0 : Int).toNat + 4294967296 * (1 : Int).toNat)) % (10 : Int).toNat = 6 := by decide
  have hD := Ev.eq (DivMod_n (nm3 (d := 0) (e := 0) (f := 1) (by decide) (by decide) (by decide)) (nm1 (d := 10) (by decide)) (by decide) (by decide) (by decide)) (s := ([2576980377, 429496729], [6], true)) (by
    rw [e1, e2, dg2 (d := 2576980377) (e := 429496729) rfl (by decide) (by decide) (by decide), dg_one (d := 6) (by decide) (by decide)]; rfl)
  have r1 : rt (99 : Int).toNat = 9 := (rt_eq (x := (99 : Int).toNat) (s := 9) (by decide) (by decide)).symm
  have hS := Ev.eq (Sqrt_n (nm1 (d := 99) (by decide)) (by decide)) (s := ([9], [18])) (by
    rw [r1, dg_one (d := 9) (by decide) (by decide), show (99 : Int).toNat - 9 * 9 = 18 from rfl, dg_one (d := 18) (by decide) (by decide)]; rfl)
  have hG := Ev.eq (Gcd_n (nm1 (d := 12) (by decide)) (nm1 (d := 18) (by decide)) (by decide)) (s := [6]) (by
    rw [show Nat.gcd (12 : Int).toNat (18 : Int).toNat = 6 by decide, dg_one (d := 6) (by decide) (by decide)]; rfl)
  refine Ev.bind (f := fun k t => _) hD ?_
  refine Ev.bind (f := fun k t => _) (digits03_t (a := [2576980377, 429496729]) rfl (by decide)) ?_
  refine Ev.bind (f := fun k t => _) (digits03_t (a := [6]) rfl (by decide)) ?_
  refine Ev.bind (f := fun k t => _) hS ?_
  refine Ev.bind (f := fun k t => _) (digits03_t (a := [9]) rfl (by decide)) ?_
  refine Ev.bind (f := fun k t => _) (digits03_t (a := [18]) rfl (by decide)) ?_
  refine Ev.bind (f := fun k t => _) hG ?_
  refine Ev.bind (f := fun k t => _) (digits03_t (a := [6]) rfl (by decide)) ?_
  exact Ev.ifp rfl (Ev.ifp rfl (Ev.ifp rfl (Ev.ifp rfl (Ev.ifp rfl (Ev.now true)))))

end Go.Proofs.Ytohkjfdcmiiehaa.Sp
