/- Products may be taken in any order; the square of a sum is both squares, and twice the product: the pure statement of KaraLaws. -/
import Derived.Test.YtpodpfppbkjbcaaP11
import Derived.Test.YtpodpfppbkjbcaaKc
namespace Go.Proofs.Ytpodpfppbkjbcaa.Pure
open Go.RowKit Go.Proofs.Ytpodpfppbkjbcaa.P Go.Proofs.Ytpodpfppbkjbcaa.Num Go.Proofs.Ytpodpfppbkjbcaa.Sp Go.Proofs.YtpodpfppbkjbcaaW.PrintWords Go.Proofs.YtpodpfppbkjbcaaW.PrintLast Go.Proofs.YtpodpfppbkjbcaaW.PrintMore

theorem KaraLaws : astrolabelaw02_KaraLaws.Pure := by
  intro l0 l1 l2 _ _ h0 _ _ h1 _ _ h2
  have Na := cut_nm h0 50 50 rfl
  obtain ⟨pa, qa, _⟩ := cut_ok l0 50 (by decide)
  have Nb := cut_nm h1 50 50 rfl
  obtain ⟨pb, qb, _⟩ := cut_ok l1 50 (by decide)
  have Nc := cut_nm h2 50 50 rfl
  obtain ⟨pc, qc, _⟩ := cut_ok l2 50 (by decide)
  refine Ev.rounds ?_
  unfold astrolabelaw02_KaraLaws.f
  refine Ev.bind (f := fun k t => _) examples02 (Ev.ifp rfl (Ev.ifp pa (Ev.ifp qa (Ev.ifp pb (Ev.ifp qb (Ev.ifp pc (Ev.ifp qc ?_)))))))
  generalize l0.take (mn (l0.length : Int) 50).toNat = a at Na ⊢
  generalize val a = x at Na
  generalize l1.take (mn (l1.length : Int) 50).toNat = b at Nb ⊢
  generalize val b = y at Nb
  generalize l2.take (mn (l2.length : Int) 50).toNat = c at Nc ⊢
  generalize val c = z at Nc
  have P := Nm.mul Na Nb
  have P2 := Nm.mul Nb Nc
  have XX := Nm.mul Na Na
  have YY := Nm.mul Nb Nb
  have S := Nm.add (k := 51) Na Nb (by decide) (by decide)
  have S2 := Nm.add (k := 101) XX YY (by decide) (by decide)
  have PP := Nm.add (k := 101) P P (by decide) (by decide)
  have hsq : (x + y) * (x + y) = x * x + y * y + (x * y + x * y) := by grind
  refine Ev.bind (f := fun k t => _) (kMul_n Na Nb (by decide) (by decide)) ?_
  refine Ev.bind (f := fun k t => _) (kMul_n Nb Na (by decide) (by decide)) ?_
  refine Ev.bind (f := fun k t => _) (digits02_n P (Nat.mul_comm x y) (by decide)) ?_
  refine Ev.bind (f := fun k t => _) (kMul_n P Nc (by decide) (by decide)) ?_
  refine Ev.bind (f := fun k t => _) (kMul_n Nb Nc (by decide) (by decide)) ?_
  refine Ev.bind (f := fun k t => _) (kMul_n Na P2 (by decide) (by decide)) ?_
  refine Ev.bind (f := fun k t => _) (digits02_n (Nm.mul P Nc) (Nat.mul_assoc x y z) (by decide)) ?_
  refine Ev.bind (f := fun k t => _) (kSquare_n Na (by decide)) ?_
  refine Ev.bind (f := fun k t => _) (kSquare_n Nb (by decide)) ?_
  refine Ev.bind (f := fun k t => _) (Add_n XX YY (by decide) (by decide)) ?_
  refine Ev.bind (f := fun k t => _) (Add_n P P (by decide) (by decide)) ?_
  refine Ev.bind (f := fun k t => _) (Add_n S2 PP (by decide) (by decide)) ?_
  refine Ev.bind (f := fun k t => _) (Add_n Na Nb (by decide) (by decide)) ?_
  refine Ev.bind (f := fun k t => _) (kSquare_n S (by decide)) ?_
  refine Ev.bind (f := fun k t => _) (digits02_n (Nm.mul S S) hsq (by decide)) ?_
  refine Ev.ifp rfl (Ev.ifp rfl ?_)
  exact Ev.now true

end Go.Proofs.Ytpodpfppbkjbcaa.Pure
