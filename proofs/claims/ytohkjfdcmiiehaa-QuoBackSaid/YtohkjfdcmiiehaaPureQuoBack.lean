/- The quotient times the divisor, and the rest, are the number; the rest is below the divisor; a product divided by a part is the other one: the pure statement of QuoBack. -/
import Derived.Test.YtohkjfdcmiiehaaP18
import Derived.Test.YtohkjfdcmiiehaaQh
namespace Go.Proofs.Ytohkjfdcmiiehaa.Pure
open Go.RowKit Go.Proofs.Ytohkjfdcmiiehaa.P Go.Proofs.Ytohkjfdcmiiehaa.Num Go.Proofs.Ytohkjfdcmiiehaa.Sp Go.Proofs.YtohkjfdcmiiehaaW.PrintWords Go.Proofs.YtohkjfdcmiiehaaW.PrintLast Go.Proofs.YtohkjfdcmiiehaaW.PrintMore

theorem QuoBack : astrolabelaw03_QuoBack.Pure := by
  intro l0 l1 _ _ h0 _ _ h1
  have Na := cut_nm h0 30 30 rfl
  obtain ⟨pa, qa, _⟩ := cut_ok l0 30 (by decide)
  have Nb := cut_nm h1 30 30 rfl
  obtain ⟨pb, qb, _⟩ := cut_ok l1 30 (by decide)
  refine Ev.rounds ?_
  unfold astrolabelaw03_QuoBack.f
  refine Ev.bind (f := fun k t => _) examples03 (Ev.ifp rfl (Ev.ifp pa (Ev.ifp qa (Ev.ifp pb (Ev.ifp qb ?_)))))
  generalize l0.take (mn (l0.length : Int) 30).toNat = a at Na ⊢
  generalize val a = x at Na
  generalize l1.take (mn (l1.length : Int) 30).toNat = b at Nb ⊢
  generalize val b = y at Nb
  by_cases hy : y = 0
  · subst hy
    refine Ev.bind (f := fun k t => _) (DivMod_0 Na Nb (by decide) (by decide)) ?_
    refine Ev.bind (f := fun k t => _) (Bits_n Nb (by decide)) ?_
    exact Ev.ifp rfl (Ev.ifn (by simp) (Ev.ifp rfl (Ev.now true)))
  · have Nq : Nm (dg (x / y)) (x / y) 30 := Nm.le Na (Nat.div_le_self _ _)
    have Nr : Nm (dg (x % y)) (x % y) 30 := Nm.le Na (Nat.mod_le _ _)
    have e1 : x / y * y + x % y = x := by rw [Nat.mul_comm]; exact Nat.div_add_mod x y
    have e2 : x * y / y = x := Nat.mul_div_cancel x (Nat.pos_of_ne_zero hy)
    have M := Nm.mul Na Nb
    have P := Nm.mul Nq Nb
    have S := Nm.add (k := 61) P Nr (by decide) (by decide)
    have hD2 := Ev.eq (DivMod_n M Nb (by decide) (by decide) hy) (s := (dg x, [], true)) (by rw [e2, Nat.mul_mod_left, dg_zero])
    refine Ev.bind (f := fun k t => _) (DivMod_n Na Nb (by decide) (by decide) hy) ?_
    refine Ev.bind (f := fun k t => _) (Bits_n Nb (by decide)) ?_
    refine Ev.ifn (bl_no hy) ?_
    refine Ev.bind (f := fun k t => _) (Mul_n Nq Nb (by decide) (by decide)) ?_
    refine Ev.bind (f := fun k t => _) (Add_n P Nr (by decide) (by decide)) ?_
    refine Ev.bind (f := fun k t => _) (Trim_n Na (by decide)) ?_
    refine Ev.bind (f := fun k t => _) (digits03_n S e1 (by decide)) ?_
    refine Ev.bind (f := fun k t => _) (Mul_n Na Nb (by decide) (by decide)) ?_
    refine Ev.bind (f := fun k t => _) hD2 ?_
    refine Ev.bind (f := fun k t => _) (Trim_n Na (by decide)) ?_
    refine Ev.bind (f := fun k t => _) (digits03_n Na rfl (by decide)) ?_
    refine Ev.ifp rfl (Ev.ifp rfl ?_)
    refine Ev.bind (f := fun k t => _) (Cmp_n Nr Nb (by decide) (by decide)) ?_
    exact Ev.ifp ((cmp_neg _ _).2 (Nat.mod_lt _ (Nat.pos_of_ne_zero hy))) (Ev.ifp rfl (Ev.ifp rfl (Ev.now true)))

end Go.Proofs.Ytohkjfdcmiiehaa.Pure
