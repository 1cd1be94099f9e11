/- Moved up, two numbers have the product moved up by both ways; with 1 a number is itself, with nought nought: the pure statement of KaraMoves. -/
import Derived.Test.YtpodpfppbkjbcaaP13
import Derived.Test.YtpodpfppbkjbcaaKc
namespace Go.Proofs.Ytpodpfppbkjbcaa.Pure
open Go.RowKit Go.Proofs.Ytpodpfppbkjbcaa.P Go.Proofs.Ytpodpfppbkjbcaa.Num Go.Proofs.Ytpodpfppbkjbcaa.Sp Go.Proofs.YtpodpfppbkjbcaaW.PrintWords Go.Proofs.YtpodpfppbkjbcaaW.PrintLast Go.Proofs.YtpodpfppbkjbcaaW.PrintMore

theorem Moves_j1 {a b : List Int} {x y n m : Nat} (Na : Nm a x 30) (Nb : Nm b y 30) : Ev (fun k => astrolabelaw02_KaraMoves.j1 k a b (n : Int) (m : Int) true) true := by
  have en : Int.tmod (n : Int) 601 = ((n % 601 : Nat) : Int) := rfl
  have em : Int.tmod (m : Int) 601 = ((m % 601 : Nat) : Int) := rfl
  have hn : n % 601 ≤ 600 := by omega
  have hm : m % 601 ≤ 600 := by omega
  refine Ev.step (f := ?F) (fun k => ?_) ?_
  rotate_left
  · simp only [astrolabelaw02_KaraMoves.j1]
    rw [en, em]
  generalize n % 601 = n at hn
  generalize m % 601 = m at hm
  have es : wrap64 ((n : Int) + (m : Int)) = ((n + m : Nat) : Int) := by rw [w64] <;> omega
  rw [es]
  have one : Nm [1] 1 1 := nm1 (d := 1) (by decide)
  have nil : Nm [] 0 0 := ⟨Dig_nil, rfl, Nat.le_refl _⟩
  have X : Nm (dg (x * 2 ^ n)) (x * 2 ^ n) 60 := (Nm.shl Na).mono (by omega)
  have Y : Nm (dg (y * 2 ^ m)) (y * 2 ^ m) 60 := (Nm.shl Nb).mono (by omega)
  have P := Nm.mul Na Nb
  have hs : x * 2 ^ n * (y * 2 ^ m) = x * y * 2 ^ (n + m) := by
    rw [Nat.pow_add]
    generalize 2 ^ n = p
    generalize 2 ^ m = q
    grind
  refine Ev.bind (f := fun k t => _) (Shl_n Na (by decide) (by omega)) ?_
  refine Ev.bind (f := fun k t => _) (Shl_n Nb (by decide) (by omega)) ?_
  refine Ev.bind (f := fun k t => _) (kMul_n Na Nb (by decide) (by decide)) ?_
  refine Ev.bind (f := fun k t => _) (Shl_n P (by decide) (by omega)) ?_
  refine Ev.bind (f := fun k t => _) (kMul_n X Y (by decide) (by decide)) ?_
  refine Ev.bind (f := fun k t => _) (digits02_n (Nm.mul X Y) hs (by decide)) ?_
  refine Ev.bind (f := fun k t => _) (kMul_n Na one (by decide) (by decide)) ?_
  refine Ev.bind (f := fun k t => _) (Trim_n Na (by decide)) ?_
  refine Ev.bind (f := fun k t => _) (digits02_n (Nm.mul Na one) (Nat.mul_one x) (by decide)) ?_
  refine Ev.ifp (by trivial) (Ev.ifp (by trivial) (Ev.ifp (by trivial) (Ev.ifp (by trivial) (Ev.ifp (by trivial) (Ev.ifp (by trivial) ?_)))))
  refine Ev.bind (f := fun k t => _) (Ev.eq (kMul_n Na nil (by decide) (by decide)) (s := []) (by rw [Nat.mul_zero, dg_zero])) ?_
  exact Ev.now true

theorem Moves_j0 {a b : List Int} {x y n : Nat} {i : Int} (Na : Nm a x 30) (Nb : Nm b y 30) (hi : (Lit.int .i64 i).wf = true) :
    Ev (fun k => astrolabelaw02_KaraMoves.j0 k a b (n : Int) i true) true := by
  obtain ⟨m, _, hm⟩ := fold_neg hi
  refine Ev.step (fun k => ?_) (Moves_j1 (n := n) (m := m) Na Nb)
  simp only [astrolabelaw02_KaraMoves.j0]
  by_cases h : i < 0
  · rw [if_pos h] at hm; rw [if_pos h, hm]
  · rw [if_neg h] at hm; rw [if_neg h, hm]

theorem KaraMoves : astrolabelaw02_KaraMoves.Pure := by
  intro l0 l1 a2 a3 _ _ h0 _ _ h1 h2 h3
  have Na := cut_nm h0 30 30 rfl
  obtain ⟨pa, qa, _⟩ := cut_ok l0 30 (by decide)
  have Nb := cut_nm h1 30 30 rfl
  obtain ⟨pb, qb, _⟩ := cut_ok l1 30 (by decide)
  obtain ⟨m, _, hm⟩ := fold_neg h2
  refine Ev.rounds ?_
  unfold astrolabelaw02_KaraMoves.f
  refine Ev.bind (f := fun k t => _) examples02 (Ev.ifp rfl (Ev.ifp pa (Ev.ifp qa (Ev.ifp pb (Ev.ifp qb ?_)))))
  generalize l0.take (mn (l0.length : Int) 30).toNat = a at Na ⊢
  generalize val a = x at Na
  generalize l1.take (mn (l1.length : Int) 30).toNat = b at Nb ⊢
  generalize val b = y at Nb
  by_cases h : a2 < 0
  · rw [if_pos h] at hm
    refine Ev.ifp h ?_
    rw [hm]
    exact Moves_j0 Na Nb h3
  · rw [if_neg h] at hm
    refine Ev.ifn h ?_
    rw [hm]
    exact Moves_j0 Na Nb h3

end Go.Proofs.Ytpodpfppbkjbcaa.Pure
