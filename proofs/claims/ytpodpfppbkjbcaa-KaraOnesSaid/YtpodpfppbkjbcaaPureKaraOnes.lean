/- The product of two numbers all of whose bits are 1 is what it must be: the pure statement of KaraOnes. -/
import Derived.Test.YtpodpfppbkjbcaaP12
import Derived.Test.YtpodpfppbkjbcaaKc
namespace Go.Proofs.Ytpodpfppbkjbcaa.Pure
open Go.RowKit Go.Proofs.Ytpodpfppbkjbcaa.P Go.Proofs.Ytpodpfppbkjbcaa.Num Go.Proofs.Ytpodpfppbkjbcaa.Sp Go.Proofs.YtpodpfppbkjbcaaW.PrintWords Go.Proofs.YtpodpfppbkjbcaaW.PrintLast Go.Proofs.YtpodpfppbkjbcaaW.PrintMore

theorem ones_alg {p q : Nat} (hp : 1 ≤ p) (hq : 1 ≤ q) : 1 * p + 1 * q ≤ 1 * (p * q) + 1 ∧ (1 * p - 1) * (1 * q - 1) = 1 * (p * q) + 1 - (1 * p + 1 * q) := by
  obtain ⟨u, rfl⟩ : ∃ u, p = u + 1 := ⟨p - 1, by omega⟩
  obtain ⟨v, rfl⟩ : ∃ v, q = v + 1 := ⟨q - 1, by omega⟩
  have e : (u + 1) * (v + 1) = u * v + u + v + 1 := by grind
  rw [e, Nat.one_mul, Nat.one_mul, Nat.one_mul, Nat.add_sub_cancel, Nat.add_sub_cancel]
  generalize u * v = w
  omega

theorem Ones_j1 {n m : Nat} : Ev (fun k => astrolabelaw02_KaraOnes.j1 k (n : Int) (m : Int) true) true := by
  have en : wrap64 (1 + Int.tmod (n : Int) 2000) = ((1 + n % 2000 : Nat) : Int) := by
    have : Int.tmod (n : Int) 2000 = ((n % 2000 : Nat) : Int) := rfl
    rw [this, w64] <;> omega
  have em : wrap64 (1 + Int.tmod (m : Int) 2000) = ((1 + m % 2000 : Nat) : Int) := by
    have : Int.tmod (m : Int) 2000 = ((m % 2000 : Nat) : Int) := rfl
    rw [this, w64] <;> omega
  have hn : 1 + n % 2000 ≤ 2000 := by omega
  have hm : 1 + m % 2000 ≤ 2000 := by omega
  refine Ev.step (f := ?F) (fun k => ?_) ?_
  rotate_left
  · simp only [astrolabelaw02_KaraOnes.j1]
    rw [en, em]
  generalize 1 + n % 2000 = n at hn
  generalize 1 + m % 2000 = m at hm
  have es : wrap64 ((n : Int) + (m : Int)) = ((n + m : Nat) : Int) := by rw [w64] <;> omega
  rw [es]
  have one : Nm [1] 1 1 := nm1 (d := 1) (by decide)
  have X : Nm (dg (1 * 2 ^ n)) (1 * 2 ^ n) 200 := (Nm.shl one).mono (by omega)
  have Y : Nm (dg (1 * 2 ^ m)) (1 * 2 ^ m) 200 := (Nm.shl one).mono (by omega)
  have Z : Nm (dg (1 * 2 ^ (n + m))) (1 * 2 ^ (n + m)) 200 := (Nm.shl one).mono (by omega)
  have s1 := Shl_n one (by decide) (show n ≤ 100000 by omega)
  have s2 := Shl_n one (by decide) (show m ≤ 100000 by omega)
  have s3 := Shl_n one (by decide) (show n + m ≤ 100000 by omega)
  have hp := Nat.two_pow_pos n
  have hq := Nat.two_pow_pos m
  obtain ⟨g1, g2⟩ := ones_alg hp hq
  rw [← Nat.pow_add] at g1 g2
  generalize 2 ^ n = p at *
  generalize 2 ^ m = q at *
  generalize 2 ^ (n + m) = r at *
  have P := Nm.le X (Nat.sub_le (1 * p) 1)
  have Q := Nm.le Y (Nat.sub_le (1 * q) 1)
  have S := Nm.add (k := 201) Z one (by decide) (by decide)
  have U := Nm.add (k := 201) X Y (by decide) (by decide)
  refine Ev.bind (f := fun k t => _) (Ev.now ([1] : List Int)) ?_
  refine Ev.bind (f := fun k t => _) s1 ?_
  refine Ev.bind (f := fun k t => _) s2 ?_
  refine Ev.bind (f := fun k t => _) s3 ?_
  refine Ev.bind (f := fun k t => _) (Sub_y X one (by decide) (by decide) (by omega)) ?_
  refine Ev.bind (f := fun k t => _) (Sub_y Y one (by decide) (by decide) (by omega)) ?_
  refine Ev.bind (f := fun k t => _) (Add_n Z one (by decide) (by decide)) ?_
  refine Ev.bind (f := fun k t => _) (Add_n X Y (by decide) (by decide)) ?_
  refine Ev.bind (f := fun k t => _) (Sub_y S U (by decide) (by decide) g1) ?_
  refine Ev.bind (f := fun k t => _) (kMul_n P Q (by decide) (by decide)) ?_
  refine Ev.bind (f := fun k t => _) (digits02_n (Nm.mul P Q) g2 (by decide)) ?_
  refine Ev.ifp (by trivial) (Ev.ifp (by trivial) (Ev.ifp (by trivial) (Ev.ifp (by trivial) (Ev.ifp (by trivial) (Ev.ifp (by trivial) (Ev.ifp (by trivial) ?_))))))
  exact Ev.now true

theorem Ones_j0 {n : Nat} {i : Int} (hi : (Lit.int .i64 i).wf = true) :
    Ev (fun k => astrolabelaw02_KaraOnes.j0 k (n : Int) i true) true := by
  obtain ⟨m, _, hm⟩ := fold_neg hi
  refine Ev.step (fun k => ?_) (Ones_j1 (n := n) (m := m))
  simp only [astrolabelaw02_KaraOnes.j0]
  by_cases h : i < 0
  · rw [if_pos h] at hm; rw [if_pos h, hm]
  · rw [if_neg h] at hm; rw [if_neg h, hm]

theorem KaraOnes : astrolabelaw02_KaraOnes.Pure := by
  intro a0 a1 h0 h1
  obtain ⟨m, _, hm⟩ := fold_neg h0
  refine Ev.rounds ?_
  unfold astrolabelaw02_KaraOnes.f
  refine Ev.bind (f := fun k t => _) examples02 (Ev.ifp rfl ?_)
  by_cases h : a0 < 0
  · rw [if_pos h] at hm
    refine Ev.ifp h ?_
    rw [hm]
    exact Ones_j0 h1
  · rw [if_neg h] at hm
    refine Ev.ifn h ?_
    rw [hm]
    exact Ones_j0 h1

end Go.Proofs.Ytpodpfppbkjbcaa.Pure
