/- Any two numbers have the quotient and the rest that the chapter says, or none; and the greatest common divisor: the pure statement of QuoDivides. -/
import Derived.Test.YtohkjfdcmiiehaaP16
import Derived.Test.YtohkjfdcmiiehaaMQuoDivides
namespace Go.Proofs.Ytohkjfdcmiiehaa.Pure
open Go.RowKit Go.Proofs.Ytohkjfdcmiiehaa.P Go.Proofs.Ytohkjfdcmiiehaa.Num Go.Proofs.Ytohkjfdcmiiehaa.Sp Go.Proofs.YtohkjfdcmiiehaaW.PrintWords Go.Proofs.YtohkjfdcmiiehaaW.PrintLast Go.Proofs.YtohkjfdcmiiehaaW.PrintMore

theorem cut8 {a : List Int} {x n : Nat} (Na : Nm a x n) : Nm (a.take (mn (a.length : Int) 8).toNat) (val (a.take (mn (a.length : Int) 8).toNat)) 8 :=
  ⟨Dig_take Na.dig _, rfl, by
    have := (cut_ok a 8 (by decide)).2.2
    rw [List.length_take]; omega⟩

theorem QuoDivides : astrolabelaw03_QuoDivides.Pure := by
  intro l0 l1 _ _ h0 _ _ h1
  have Na := cut_nm h0 40 40 rfl
  obtain ⟨pa, qa, _⟩ := cut_ok l0 40 (by decide)
  have Nb := cut_nm h1 40 40 rfl
  obtain ⟨pb, qb, _⟩ := cut_ok l1 40 (by decide)
  refine Ev.rounds ?_
  unfold astrolabelaw03_QuoDivides.f
  refine Ev.bind (f := fun k t => _) examples03 (Ev.ifp rfl (Ev.ifp pa (Ev.ifp qa (Ev.ifp pb (Ev.ifp qb ?_)))))
  generalize l0.take (mn (l0.length : Int) 40).toNat = a at Na ⊢
  generalize val a = x at Na
  generalize l1.take (mn (l1.length : Int) 40).toNat = b at Nb ⊢
  generalize val b = y at Nb
  have N1 := cut8 Na
  have N2 := cut8 Nb
  obtain ⟨p1, p2, _⟩ := cut_ok a 8 (by decide)
  obtain ⟨p3, p4, _⟩ := cut_ok b 8 (by decide)
  have Ng : Nm (dg (Nat.gcd (val (a.take (mn (a.length : Int) 8).toNat)) (val (b.take (mn (b.length : Int) 8).toNat)))) (Nat.gcd (val (a.take (mn (a.length : Int) 8).toNat)) (val (b.take (mn (b.length : Int) 8).toNat))) 8 := by
    generalize val (a.take (mn (a.length : Int) 8).toNat) = u at N1
    generalize val (b.take (mn (b.length : Int) 8).toNat) = v at N2
    by_cases hu : u = 0
    · rw [hu, Nat.gcd_zero_left]; exact N2.dg
    · exact Nm.le N1 (Nat.gcd_le_left v (Nat.pos_of_ne_zero hu))
  by_cases hy : y = 0
  · subst hy
    refine Ev.bind (f := fun k t => _) (DivMod_0 Na Nb (by decide) (by decide)) ?_
    refine Ev.bind (f := fun k t => _) (rDivMod_0 Nb (by decide)) ?_
    refine Ev.bind (f := fun k t => _) (digits03_t (a := []) rfl (by decide)) ?_
    refine Ev.bind (f := fun k t => _) (digits03_t (a := []) rfl (by decide)) ?_
    refine Ev.ifp p1 (Ev.ifp p2 (Ev.ifp p3 (Ev.ifp p4 ?_)))
    refine Ev.bind (f := fun k t => _) (Gcd_n N1 N2 (by decide)) ?_
    refine Ev.bind (f := fun k t => _) (rGcd_n N1 N2 (by decide)) ?_
    refine Ev.bind (f := fun k t => _) (digits03_n Ng rfl (by decide)) ?_
    exact Ev.ifp rfl (Ev.ifp rfl (Ev.ifp rfl (Ev.now true)))
  · have Nq : Nm (dg (x / y)) (x / y) 40 := Nm.le Na (Nat.div_le_self _ _)
    have Nr : Nm (dg (x % y)) (x % y) 40 := Nm.le Na (Nat.mod_le _ _)
    refine Ev.bind (f := fun k t => _) (DivMod_n Na Nb (by decide) (by decide) hy) ?_
    refine Ev.bind (f := fun k t => _) (rDivMod_n Na Nb (by decide) (by decide) hy) ?_
    refine Ev.bind (f := fun k t => _) (digits03_n Nq rfl (by decide)) ?_
    refine Ev.bind (f := fun k t => _) (digits03_n Nr rfl (by decide)) ?_
    refine Ev.ifp p1 (Ev.ifp p2 (Ev.ifp p3 (Ev.ifp p4 ?_)))
    refine Ev.bind (f := fun k t => _) (Gcd_n N1 N2 (by decide)) ?_
    refine Ev.bind (f := fun k t => _) (rGcd_n N1 N2 (by decide)) ?_
    refine Ev.bind (f := fun k t => _) (digits03_n Ng rfl (by decide)) ?_
    exact Ev.ifp rfl (Ev.ifp rfl (Ev.ifp rfl (Ev.now true)))

end Go.Proofs.Ytohkjfdcmiiehaa.Pure
