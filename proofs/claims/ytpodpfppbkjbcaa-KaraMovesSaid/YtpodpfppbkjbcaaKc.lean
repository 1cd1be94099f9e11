/- How many small products Karatsuba's way needs, and the chapter's examples. -/
import Derived.Test.YtpodpfppbkjbcaaP5
import Derived.Test.YtpodpfppbkjbcaaP7
import Derived.Test.YtpodpfppbkjbcaaP8
import Derived.Test.YtpodpfppbkjbcaaKb
namespace Go.Proofs.Ytpodpfppbkjbcaa.Sp
open Go.RowKit Go.Proofs.Ytpodpfppbkjbcaa.P Go.Proofs.Ytpodpfppbkjbcaa.Num Go.Proofs.YtpodpfppbkjbcaaW.PrintWords Go.Proofs.YtpodpfppbkjbcaaW.PrintLast Go.Proofs.YtpodpfppbkjbcaaW.PrintMore

/-- The number of small products. -/
def stp (n : Nat) : Nat := if _h : n < 8 then n * n else 2 * stp ((n + 1) / 2) + stp ((n + 1) / 2 + 1)
  decreasing_by all_goals omega

theorem stp_small {n : Nat} (h : n < 8) : stp n = n * n := by rw [stp, dif_pos h]
theorem stp_big {n : Nat} (h : 8 ≤ n) : stp n = 2 * stp ((n + 1) / 2) + stp ((n + 1) / 2 + 1) := by rw [stp, dif_neg (by omega)]
theorem stp_4 : stp 4 = 16 := stp_small (by decide)
theorem stp_5 : stp 5 = 25 := stp_small (by decide)
theorem stp_6 : stp 6 = 36 := stp_small (by decide)
theorem stp_7 : stp 7 = 49 := stp_small (by decide)
theorem stp_8 : stp 8 = 57 := by
  rw [stp_big (by decide)]
  show 2 * stp 4 + stp 5 = 57
  rw [stp_4, stp_5]
theorem stp_9 : stp 9 = 86 := by
  rw [stp_big (by decide)]
  show 2 * stp 5 + stp 6 = 86
  rw [stp_5, stp_6]
theorem stp_10 : stp 10 = 86 := by
  rw [stp_big (by decide)]
  show 2 * stp 5 + stp 6 = 86
  rw [stp_5, stp_6]
theorem stp_11 : stp 11 = 121 := by
  rw [stp_big (by decide)]
  show 2 * stp 6 + stp 7 = 121
  rw [stp_6, stp_7]
theorem stp_12 : stp 12 = 121 := by
  rw [stp_big (by decide)]
  show 2 * stp 6 + stp 7 = 121
  rw [stp_6, stp_7]
theorem stp_13 : stp 13 = 155 := by
  rw [stp_big (by decide)]
  show 2 * stp 7 + stp 8 = 155
  rw [stp_7, stp_8]
theorem stp_14 : stp 14 = 155 := by
  rw [stp_big (by decide)]
  show 2 * stp 7 + stp 8 = 155
  rw [stp_7, stp_8]
theorem stp_15 : stp 15 = 200 := by
  rw [stp_big (by decide)]
  show 2 * stp 8 + stp 9 = 200
  rw [stp_8, stp_9]
theorem stp_16 : stp 16 = 200 := by
  rw [stp_big (by decide)]
  show 2 * stp 8 + stp 9 = 200
  rw [stp_8, stp_9]
theorem stp_17 : stp 17 = 258 := by
  rw [stp_big (by decide)]
  show 2 * stp 9 + stp 10 = 258
  rw [stp_9, stp_10]
theorem stp_18 : stp 18 = 258 := by
  rw [stp_big (by decide)]
  show 2 * stp 9 + stp 10 = 258
  rw [stp_9, stp_10]
theorem stp_19 : stp 19 = 293 := by
  rw [stp_big (by decide)]
  show 2 * stp 10 + stp 11 = 293
  rw [stp_10, stp_11]
theorem stp_20 : stp 20 = 293 := by
  rw [stp_big (by decide)]
  show 2 * stp 10 + stp 11 = 293
  rw [stp_10, stp_11]
theorem stp_21 : stp 21 = 363 := by
  rw [stp_big (by decide)]
  show 2 * stp 11 + stp 12 = 363
  rw [stp_11, stp_12]
theorem stp_22 : stp 22 = 363 := by
  rw [stp_big (by decide)]
  show 2 * stp 11 + stp 12 = 363
  rw [stp_11, stp_12]

theorem stp_sq {n h : Nat} (h1 : n = 2 * h ∨ n + 1 = 2 * h) (h2 : 12 ≤ h) : 2 * (h * h) + (h + 1) * (h + 1) ≤ n * n := by
  obtain ⟨m, rfl⟩ : ∃ m, h = m + 1 := ⟨h - 1, by omega⟩
  have hm : 11 * m ≤ m * m := Nat.mul_le_mul_right m (by omega)
  have e1 : (m + 1) * (m + 1) = m * m + 2 * m + 1 := by grind
  have e2 : (m + 1 + 1) * (m + 1 + 1) = m * m + 4 * m + 4 := by grind
  have hn : 2 * m + 1 ≤ n := by omega
  have e3 : (2 * m + 1) * (2 * m + 1) = 4 * (m * m) + 4 * m + 1 := by grind
  have h4 : (2 * m + 1) * (2 * m + 1) ≤ n * n := Nat.mul_le_mul hn hn
  rw [e1, e2]
  rw [e3] at h4
  generalize m * m = q at hm h4 ⊢
  generalize n * n = r at h4 ⊢
  omega

theorem stp_lt : ∀ n : Nat, 12 ≤ n → stp n < n * n := by
  intro n
  induction n using Nat.strongRecOn with
  | _ n ih =>
  intro hn
  by_cases h : n ≤ 22
  · obtain rfl | rfl | rfl | rfl | rfl | rfl | rfl | rfl | rfl | rfl | rfl : n = 12 ∨ n = 13 ∨ n = 14 ∨ n = 15 ∨ n = 16 ∨ n = 17 ∨ n = 18 ∨ n = 19 ∨ n = 20 ∨ n = 21 ∨ n = 22 := by omega
    · rw [stp_12]; decide
    · rw [stp_13]; decide
    · rw [stp_14]; decide
    · rw [stp_15]; decide
    · rw [stp_16]; decide
    · rw [stp_17]; decide
    · rw [stp_18]; decide
    · rw [stp_19]; decide
    · rw [stp_20]; decide
    · rw [stp_21]; decide
    · rw [stp_22]; decide
  · rw [stp_big (by omega)]
    have i0 := ih ((n + 1) / 2) (by omega) (by omega)
    have i1 := ih ((n + 1) / 2 + 1) (by omega) (by omega)
    have sq := stp_sq (n := n) (h := (n + 1) / 2) (by omega) (by omega)
    generalize (n + 1) / 2 * ((n + 1) / 2) = a at i0 sq
    generalize ((n + 1) / 2 + 1) * ((n + 1) / 2 + 1) = b at i1 sq
    generalize n * n = c at sq ⊢
    generalize stp ((n + 1) / 2) = d at i0 ⊢
    generalize stp ((n + 1) / 2 + 1) = e at i1 ⊢
    omega

theorem stp_le (n : Nat) : stp n ≤ n * n + 5 := by
  by_cases h : n < 8
  · rw [stp_small h]; exact Nat.le_add_right _ _
  by_cases h1 : 12 ≤ n
  · exact Nat.le_trans (Nat.le_of_lt (stp_lt n h1)) (Nat.le_add_right _ _)
  · obtain rfl | rfl | rfl | rfl : n = 8 ∨ n = 9 ∨ n = 10 ∨ n = 11 := by omega
    · rw [stp_8]; decide
    · rw [stp_9]; decide
    · rw [stp_10]; decide
    · rw [stp_11]; decide

theorem stp_mono : ∀ n : Nat, stp n ≤ stp (n + 1) := by
  intro n
  induction n using Nat.strongRecOn with
  | _ n ih =>
  by_cases h7 : n < 7
  · rw [stp_small (by omega), stp_small (by omega)]
    exact Nat.mul_le_mul (Nat.le_succ n) (Nat.le_succ n)
  by_cases h8 : n = 7
  · subst h8; rw [stp_7, stp_8]; decide
  · rw [stp_big (n := n) (by omega), stp_big (n := n + 1) (by omega)]
    rcases (show (n + 1 + 1) / 2 = (n + 1) / 2 ∨ (n + 1 + 1) / 2 = (n + 1) / 2 + 1 by omega) with e | e
    · rw [e]; exact Nat.le_refl _
    · rw [e]
      have i0 := ih ((n + 1) / 2) (by omega)
      have i1 := ih ((n + 1) / 2 + 1) (by omega)
      omega

theorem Steps_nat : ∀ n : Nat, n ≤ 1000000 → Ev (fun k => kara_Steps.f k (n : Int)) (stp n : Int) := by
  intro n
  induction n using Nat.strongRecOn with
  | _ n ih =>
  intro hn
  have em : mn (n : Int) 1000000 = (n : Int) := by unfold mn; split <;> omega
  by_cases h1 : n < 8
  · refine Ev.step (f := fun _ => some (stp n : Int)) (fun k => ?_) (Ev.now _)
    simp only [kara_Steps.f]
    rw [em, stp_small h1]
    by_cases h0 : n < 1
    · rw [if_pos (by omega)]
      have : n = 0 := by omega
      subst this
      rfl
    · have hb : n * n ≤ 7 * 7 := Nat.mul_le_mul (by omega) (by omega)
      rw [if_neg (by omega), if_pos (by omega), ← Int.natCast_mul]
      generalize n * n = q at hb
      rw [w64 (by omega) (by omega)]
  · have hb0 : (n + 1) / 2 * ((n + 1) / 2) ≤ 1000000 * 1000000 := Nat.mul_le_mul (by omega) (by omega)
    have hb1 : ((n + 1) / 2 + 1) * ((n + 1) / 2 + 1) ≤ 1000000 * 1000000 := Nat.mul_le_mul (by omega) (by omega)
    have s0 := stp_le ((n + 1) / 2)
    have s1 := stp_le ((n + 1) / 2 + 1)
    have c0 : stp ((n + 1) / 2) ≤ 1000000000005 := by
      generalize (n + 1) / 2 * ((n + 1) / 2) = q at hb0 s0
      omega
    have c1 : stp ((n + 1) / 2 + 1) ≤ 1000000000005 := by
      generalize ((n + 1) / 2 + 1) * ((n + 1) / 2 + 1) = q at hb1 s1
      omega
    clear hb0 hb1 s0 s1
    have e1 : wrap64 ((n : Int) + 1) = ((n + 1 : Nat) : Int) := by rw [w64] <;> omega
    have e2 : wrap64 (Int.tdiv ((n + 1 : Nat) : Int) 2) = (((n + 1) / 2 : Nat) : Int) := by
      have : Int.tdiv ((n + 1 : Nat) : Int) 2 = (((n + 1) / 2 : Nat) : Int) := rfl
      rw [this, w64] <;> omega
    have e3 : wrap64 ((((n + 1) / 2 : Nat) : Int) + 1) = (((n + 1) / 2 + 1 : Nat) : Int) := by rw [w64] <;> omega
    refine Ev.step (f := ?F) (fun k => ?_) ?_
    rotate_left
    · simp only [kara_Steps.f]
      rw [em, if_neg (by omega), if_neg (by omega), e1, e2, e3]
    refine Ev.bind (f := fun k t => _) (ih ((n + 1) / 2) (by omega) (by omega)) (Ev.bind (f := fun k t => _) (ih ((n + 1) / 2 + 1) (by omega) (by omega)) ?_)
    refine Ev.eq (Ev.now _) ?_
    rw [stp_big (n := n) (by omega)]
    clear e1 e2 e3 em
    generalize stp ((n + 1) / 2) = p at c0
    generalize stp ((n + 1) / 2 + 1) = q at c1
    rw [w64 (x := 2 * (p : Int)) (by omega) (by omega), w64 (by omega) (by omega)]
    omega

theorem Steps_int {x : Int} (h : x ≤ 1000000) : Ev (fun k => kara_Steps.f k x) (stp x.toNat : Int) := by
  by_cases h0 : x < 1
  · refine Ev.step (f := fun _ => some (0 : Int)) (fun k => ?_) (Ev.eq (Ev.now _) ?_)
    · have em : mn x 1000000 = x := by unfold mn; split <;> omega
      simp only [kara_Steps.f]
      rw [em, if_pos h0]
    · rw [show x.toNat = 0 by omega, stp_small (by decide)]
      rfl
  · have e : ((x.toNat : Nat) : Int) = x := by omega
    have := Steps_nat x.toNat (by omega)
    rw [e] at this
    exact this

theorem rSteps_nat : ∀ n : Nat, n ≤ 1000000 → Ev (fun k => astrolaberef02_Steps.f k (n : Int)) (stp n : Int) := by
  intro n
  induction n using Nat.strongRecOn with
  | _ n ih =>
  intro hn
  have em : mn (n : Int) 1000000 = (n : Int) := by unfold mn; split <;> omega
  by_cases h1 : n < 8
  · refine Ev.step (f := fun _ => some (stp n : Int)) (fun k => ?_) (Ev.now _)
    simp only [astrolaberef02_Steps.f]
    rw [em, stp_small h1]
    by_cases h0 : n < 1
    · rw [if_pos (by omega)]
      have : n = 0 := by omega
      subst this
      rfl
    · have hb : n * n ≤ 7 * 7 := Nat.mul_le_mul (by omega) (by omega)
      rw [if_neg (by omega), if_pos (by omega), ← Int.natCast_mul]
      generalize n * n = q at hb
      rw [w64 (by omega) (by omega)]
  · have hb0 : (n + 1) / 2 * ((n + 1) / 2) ≤ 1000000 * 1000000 := Nat.mul_le_mul (by omega) (by omega)
    have hb1 : ((n + 1) / 2 + 1) * ((n + 1) / 2 + 1) ≤ 1000000 * 1000000 := Nat.mul_le_mul (by omega) (by omega)
    have s0 := stp_le ((n + 1) / 2)
    have s1 := stp_le ((n + 1) / 2 + 1)
    have c0 : stp ((n + 1) / 2) ≤ 1000000000005 := by
      generalize (n + 1) / 2 * ((n + 1) / 2) = q at hb0 s0
      omega
    have c1 : stp ((n + 1) / 2 + 1) ≤ 1000000000005 := by
      generalize ((n + 1) / 2 + 1) * ((n + 1) / 2 + 1) = q at hb1 s1
      omega
    clear hb0 hb1 s0 s1
    have e1 : wrap64 ((n : Int) + 1) = ((n + 1 : Nat) : Int) := by rw [w64] <;> omega
    have e2 : wrap64 (Int.tdiv ((n + 1 : Nat) : Int) 2) = (((n + 1) / 2 : Nat) : Int) := by
      have : Int.tdiv ((n + 1 : Nat) : Int) 2 = (((n + 1) / 2 : Nat) : Int) := rfl
      rw [this, w64] <;> omega
    have e3 : wrap64 ((((n + 1) / 2 : Nat) : Int) + 1) = (((n + 1) / 2 + 1 : Nat) : Int) := by rw [w64] <;> omega
    refine Ev.step (f := ?F) (fun k => ?_) ?_
    rotate_left
    · simp only [astrolaberef02_Steps.f]
      rw [em, if_neg (by omega), if_neg (by omega), e1, e2, e3]
    refine Ev.bind (f := fun k t => _) (ih ((n + 1) / 2) (by omega) (by omega)) (Ev.bind (f := fun k t => _) (ih ((n + 1) / 2 + 1) (by omega) (by omega)) ?_)
    refine Ev.eq (Ev.now _) ?_
    rw [stp_big (n := n) (by omega)]
    clear e1 e2 e3 em
    generalize stp ((n + 1) / 2) = p at c0
    generalize stp ((n + 1) / 2 + 1) = q at c1
    rw [w64 (x := 2 * (p : Int)) (by omega) (by omega), w64 (by omega) (by omega)]
    omega

theorem rSteps_int {x : Int} (h : x ≤ 1000000) : Ev (fun k => astrolaberef02_Steps.f k x) (stp x.toNat : Int) := by
  by_cases h0 : x < 1
  · refine Ev.step (f := fun _ => some (0 : Int)) (fun k => ?_) (Ev.eq (Ev.now _) ?_)
    · have em : mn x 1000000 = x := by unfold mn; split <;> omega
      simp only [astrolaberef02_Steps.f]
      rw [em, if_pos h0]
    · rw [show x.toNat = 0 by omega, stp_small (by decide)]
      rfl
  · have e : ((x.toNat : Nat) : Int) = x := by omega
    have := rSteps_nat x.toNat (by omega)
    rw [e] at this
    exact this

theorem digits02_loop (a : List Int) (hn : a.length ≤ 1000000000) : ∀ (d i : Nat), d + i = a.length → Ev (fun k => astrolabelaw02_digits.l0 k a a i) true := by
  intro d
  induction d with
  | zero =>
    intro i hi
    refine Ev.step (f := fun _ => some true) (fun k => ?_) (Ev.now _)
    simp only [astrolabelaw02_digits.l0]
    rw [if_neg (by omega)]
  | succ d ih =>
    intro i hi
    refine Ev.step (fun k => ?_) (ih (i + 1) (by omega))
    have hw : wrap64 ((i : Int) + 1) = ((i + 1 : Nat) : Int) := by rw [w64] <;> omega
    simp only [astrolabelaw02_digits.l0]
    rw [if_pos (by omega), if_pos (by omega), if_pos (by omega), if_pos trivial, hw]

theorem digits02_t {a b : List Int} (h : a = b) (hn : a.length ≤ 1000000000) : Ev (fun k => astrolabelaw02_digits.f k a b) true := by
  subst h
  refine Ev.congr (fun k => ?_) (digits02_loop a hn a.length 0 (by omega))
  unfold astrolabelaw02_digits.f
  rw [if_pos rfl]
  rfl

theorem digits02_n {x y n : Nat} {l : List Int} (hx : Nm l x n) (h : x = y) (hn : n ≤ 1000000000) : Ev (fun k => astrolabelaw02_digits.f k (dg x) (dg y)) true :=
  digits02_t (by rw [h]) (Nat.le_trans hx.dg.len hn)

theorem fold_neg {n : Int} (h : (Lit.int .i64 n).wf = true) : ∃ m : Nat, m ≤ 9223372036854775807 ∧ (if n < 0 then wrap64 (-(wrap64 (n + 1))) else n) = (m : Int) := by
  simp only [Lit.wf, IntKind.min, IntKind.max, IntKind.signed, IntKind.bits, Bool.and_eq_true] at h
  simp at h
  by_cases h0 : n < 0
  · refine ⟨(-(n + 1)).toNat, by omega, ?_⟩
    rw [if_pos h0, w64 (x := n + 1) (by omega) (by omega), w64 (by omega) (by omega)]
    omega
  · exact ⟨n.toNat, by omega, by rw [if_neg h0]; omega⟩

theorem examples02 : Ev (fun k => astrolabelaw02_examples.f k) true := by
  unfold astrolabelaw02_examples.f
  refine Ev.bind (f := fun k t => _) (kMul_n (nm2 (d := 0) (e := 1) (by decide) (by decide)) (nm2 (d := 3) (e := 0) (by decide) (by decide)) (by decide) (by decide)) ?_
  refine Ev.bind (f := fun k t => _) (digits02_t (dg2 (d := 0) (e := 3) (by decide) (by decide) (by decide) (by decide)) (by rw [dg2 (d := 0) (e := 3) (by decide) (by decide) (by decide) (by decide)]; decide)) ?_
  refine Ev.ifp rfl ?_
  refine Ev.bind (f := fun k t => _) (Ev.eq (Steps_int (x := 7) (by decide)) (s := 49) (by rw [show (7 : Int).toNat = 7 from rfl, stp_7]; rfl)) (Ev.ifp rfl ?_)
  refine Ev.bind (f := fun k t => _) (Ev.eq (Steps_int (x := 8) (by decide)) (s := 57) (by rw [show (8 : Int).toNat = 8 from rfl, stp_8]; rfl)) (Ev.ifp rfl ?_)
  refine Ev.bind (f := fun k t => _) (Ev.eq (Steps_int (x := 0) (by decide)) (s := 0) (by rw [show (0 : Int).toNat = 0 from rfl, stp_small (by decide)]; rfl)) ?_
  exact Ev.now true

end Go.Proofs.Ytpodpfppbkjbcaa.Sp
