/- A number with so many divisors more has the same rest; the rest of a sum is that of the sum of the rests: the pure statement of QuoRests. -/
import Derived.Test.YtohkjfdcmiiehaaP22
import Derived.Test.YtohkjfdcmiiehaaQh
namespace Go.Proofs.Ytohkjfdcmiiehaa.Pure
open Go.RowKit Go.Proofs.Ytohkjfdcmiiehaa.P Go.Proofs.Ytohkjfdcmiiehaa.Num Go.Proofs.Ytohkjfdcmiiehaa.Sp Go.Proofs.YtohkjfdcmiiehaaW.PrintWords Go.Proofs.YtohkjfdcmiiehaaW.PrintLast Go.Proofs.YtohkjfdcmiiehaaW.PrintMore

theorem QuoRests : astrolabelaw03_QuoRests.Pure := by
  intro l0 l1 l2 _ _ h0 _ _ h1 _ _ h2
  have Na := cut_nm h0 20 20 rfl
  obtain ⟨pa, qa, _⟩ := cut_ok l0 20 (by decide)
  have Nb := cut_nm h1 20 20 rfl
  obtain ⟨pb, qb, _⟩ := cut_ok l1 20 (by decide)
  have Nc := cut_nm h2 20 20 rfl
  obtain ⟨pc, qc, _⟩ := cut_ok l2 20 (by decide)
  refine Ev.rounds ?_
  unfold astrolabelaw03_QuoRests.f
  refine Ev.bind (f := fun k t => _) examples03 (Ev.ifp rfl (Ev.ifp pa (Ev.ifp qa (Ev.ifp pb (Ev.ifp qb (Ev.ifp pc (Ev.ifp qc ?_)))))))
  generalize l0.take (mn (l0.length : Int) 20).toNat = a at Na ⊢
  generalize val a = x at Na
  generalize l1.take (mn (l1.length : Int) 20).toNat = b at Nb ⊢
  generalize val b = y at Nb
  generalize l2.take (mn (l2.length : Int) 20).toNat = c at Nc ⊢
  generalize val c = z at Nc
  refine Ev.bind (f := fun k t => _) (Bits_n Nc (by decide)) ?_
  by_cases hz : z = 0
  · subst hz
    exact Ev.ifp rfl (Ev.bind (f := fun k t => _) (DivMod_0 Na Nc (by decide) (by decide)) (Ev.now true))
  · refine Ev.ifn (bl_no hz) ?_
    have R1 : Nm (dg (x % z)) (x % z) 20 := Nm.le Na (Nat.mod_le _ _)
    have R2 : Nm (dg (y % z)) (y % z) 20 := Nm.le Nb (Nat.mod_le _ _)
    have M := Nm.mul Nb Nc
    have S1 := Nm.add (k := 41) Na M (by decide) (by decide)
    have S2 := Nm.add (k := 21) Na Nb (by decide) (by decide)
    have S3 := Nm.add (k := 21) R1 R2 (by decide) (by decide)
    have R4 : Nm (dg ((x + y * z) % z)) ((x + y * z) % z) 41 := Nm.le S1 (Nat.mod_le _ _)
    have R5 : Nm (dg ((x + y) % z)) ((x + y) % z) 21 := Nm.le S2 (Nat.mod_le _ _)
    refine Ev.bind (f := fun k t => _) (DivMod_n Na Nc (by decide) (by decide) hz) ?_
    refine Ev.bind (f := fun k t => _) (DivMod_n Nb Nc (by decide) (by decide) hz) ?_
    refine Ev.bind (f := fun k t => _) (Mul_n Nb Nc (by decide) (by decide)) ?_
    refine Ev.bind (f := fun k t => _) (Add_n Na M (by decide) (by decide)) ?_
    refine Ev.bind (f := fun k t => _) (DivMod_n S1 Nc (by decide) (by decide) hz) ?_
    refine Ev.bind (f := fun k t => _) (Add_n Na Nb (by decide) (by decide)) ?_
    refine Ev.bind (f := fun k t => _) (DivMod_n S2 Nc (by decide) (by decide) hz) ?_
    refine Ev.bind (f := fun k t => _) (Add_n R1 R2 (by decide) (by decide)) ?_
    refine Ev.bind (f := fun k t => _) (DivMod_n S3 Nc (by decide) (by decide) hz) ?_
    refine Ev.bind (f := fun k t => _) (digits03_n R4 (Nat.add_mul_mod_self_right x y z) (by decide)) ?_
    refine Ev.bind (f := fun k t => _) (digits03_n R5 (Nat.add_mod x y z) (by decide)) ?_
    exact Ev.ifp rfl (Ev.ifp rfl (Ev.ifp rfl (Ev.ifp rfl (Ev.ifp rfl (Ev.ifp rfl (Ev.now true))))))

end Go.Proofs.Ytohkjfdcmiiehaa.Pure
