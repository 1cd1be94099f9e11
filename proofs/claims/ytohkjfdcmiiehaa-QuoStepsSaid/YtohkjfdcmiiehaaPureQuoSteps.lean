/- Divided by one number, and by another one, a number is what it is divided by their product; moved down it is divided by the power of 2: the pure statement of QuoSteps. -/
import Derived.Test.YtohkjfdcmiiehaaP21
import Derived.Test.YtohkjfdcmiiehaaQh
namespace Go.Proofs.Ytohkjfdcmiiehaa.Pure
open Go.RowKit Go.Proofs.Ytohkjfdcmiiehaa.P Go.Proofs.Ytohkjfdcmiiehaa.Num Go.Proofs.Ytohkjfdcmiiehaa.Sp Go.Proofs.YtohkjfdcmiiehaaW.PrintWords Go.Proofs.YtohkjfdcmiiehaaW.PrintLast Go.Proofs.YtohkjfdcmiiehaaW.PrintMore

theorem Steps_no {a b c : List Int} {x y z : Nat} (Na : Nm a x 20) (Nb : Nm b y 20) (Nc : Nm c z 20) (hy : y ≠ 0) (hz : z ≠ 0) : Ev (fun k => astrolabelaw03_QuoSteps.j1 k a b c true true true true false) true := by
  have Nq : Nm (dg (x / y)) (x / y) 20 := Nm.le Na (Nat.div_le_self _ _)
  have Nq2 : Nm (dg (x / y / z)) (x / y / z) 20 := Nm.le Nq (Nat.div_le_self _ _)
  have M := Nm.mul Nb Nc
  have hyz : y * z ≠ 0 := Nat.mul_ne_zero hy hz
  refine Ev.step (f := ?F) (fun k => ?_) ?_
  rotate_left
  · simp only [astrolabelaw03_QuoSteps.j1]
    rw [if_neg (by simp)]
  refine Ev.bind (f := fun k t => _) (DivMod_n Na Nb (by decide) (by decide) hy) ?_
  refine Ev.bind (f := fun k t => _) (DivMod_n Nq Nc (by decide) (by decide) hz) ?_
  refine Ev.bind (f := fun k t => _) (Mul_n Nb Nc (by decide) (by decide)) ?_
  refine Ev.bind (f := fun k t => _) (DivMod_n Na M (by decide) (by decide) hyz) ?_
  refine Ev.bind (f := fun k t => _) (digits03_n Nq2 (Nat.div_div_eq_div_mul x y z) (by decide)) ?_
  exact Ev.ifp (by trivial) (Ev.ifp (by trivial) (Ev.ifp (by trivial) (Ev.ifp (by trivial) (Ev.ifp (by trivial) (Ev.ifp (by trivial) (Ev.ifp (by trivial) (Ev.now true)))))))

theorem Steps_yes {a b c : List Int} : Ev (fun k => astrolabelaw03_QuoSteps.j1 k a b c true true true true true) true := by
  refine Ev.step (f := fun _ => some true) (fun k => ?_) (Ev.now true)
  simp only [astrolabelaw03_QuoSteps.j1]
  rfl

theorem Steps_j0 {a b c : List Int} {x y z m : Nat} (Na : Nm a x 20) (Nb : Nm b y 20) (Nc : Nm c z 20) : Ev (fun k => astrolabelaw03_QuoSteps.j0 k a b c (m : Int) true) true := by
  have en : Int.tmod (m : Int) 601 = ((m % 601 : Nat) : Int) := rfl
  have hn : m % 601 ≤ 600 := by omega
  refine Ev.step (f := ?F) (fun k => ?_) ?_
  rotate_left
  · simp only [astrolabelaw03_QuoSteps.j0]
    rw [en]
  generalize m % 601 = n at hn
  have one : Nm [1] 1 1 := nm1 (d := 1) (by decide)
  have O : Nm (dg (1 * 2 ^ n)) (1 * 2 ^ n) 200 := (Nm.shl one).mono (by omega)
  have hO : 1 * 2 ^ n ≠ 0 := by rw [Nat.one_mul]; exact Nat.ne_of_gt (Nat.two_pow_pos n)
  have Nq : Nm (dg (x / (1 * 2 ^ n))) (x / (1 * 2 ^ n)) 20 := Nm.le Na (Nat.div_le_self _ _)
  refine Ev.bind (f := fun k t => _) (Shl_n one (by decide) (by omega)) ?_
  refine Ev.bind (f := fun k t => _) (DivMod_n Na O (by decide) (by decide) hO) ?_
  refine Ev.bind (f := fun k t => _) (Shr_n Na (by decide) (by omega)) ?_
  refine Ev.bind (f := fun k t => _) (digits03_n Nq (by rw [Nat.one_mul]) (by decide)) ?_
  refine Ev.bind (f := fun k t => _) (Bits_n Nb (by decide)) ?_
  by_cases hy : y = 0
  · exact Ev.ifp (bl_yes hy) Steps_yes
  · refine Ev.ifn (bl_no hy) (Ev.bind (f := fun k t => _) (Bits_n Nc (by decide)) ?_)
    by_cases hz : z = 0
    · rw [show ((bl z : Int) == 0) = true from beq_iff_eq.2 (bl_yes hz)]
      exact Steps_yes
    · rw [show ((bl z : Int) == 0) = false from beq_eq_false_iff_ne.2 (bl_no hz)]
      exact Steps_no Na Nb Nc hy hz

theorem QuoSteps : astrolabelaw03_QuoSteps.Pure := by
  intro l0 l1 l2 a3 _ _ h0 _ _ h1 _ _ h2 h3
  have Na := cut_nm h0 20 20 rfl
  obtain ⟨pa, qa, _⟩ := cut_ok l0 20 (by decide)
  have Nb := cut_nm h1 20 20 rfl
  obtain ⟨pb, qb, _⟩ := cut_ok l1 20 (by decide)
  have Nc := cut_nm h2 20 20 rfl
  obtain ⟨pc, qc, _⟩ := cut_ok l2 20 (by decide)
  obtain ⟨m, _, hm⟩ := fold_neg3 h3
  refine Ev.rounds ?_
  unfold astrolabelaw03_QuoSteps.f
  refine Ev.bind (f := fun k t => _) examples03 (Ev.ifp rfl (Ev.ifp pa (Ev.ifp qa (Ev.ifp pb (Ev.ifp qb (Ev.ifp pc (Ev.ifp qc ?_)))))))
  generalize l0.take (mn (l0.length : Int) 20).toNat = a at Na ⊢
  generalize val a = x at Na
  generalize l1.take (mn (l1.length : Int) 20).toNat = b at Nb ⊢
  generalize val b = y at Nb
  generalize l2.take (mn (l2.length : Int) 20).toNat = c at Nc ⊢
  generalize val c = z at Nc
  by_cases h : a3 < 0
  · rw [if_pos h] at hm
    refine Ev.ifp h ?_
    rw [hm]
    exact Steps_j0 Na Nb Nc
  · rw [if_neg h] at hm
    refine Ev.ifn h ?_
    rw [hm]
    exact Steps_j0 Na Nb Nc

end Go.Proofs.Ytohkjfdcmiiehaa.Pure
