/- The square of the root, and the rest, are the number; the rest is at most twice the root; the root of a square is what was squared, without a rest: the pure statement of QuoSquares. -/
import Derived.Test.YtohkjfdcmiiehaaP19
import Derived.Test.YtohkjfdcmiiehaaQh
namespace Go.Proofs.Ytohkjfdcmiiehaa.Pure
open Go.RowKit Go.Proofs.Ytohkjfdcmiiehaa.P Go.Proofs.Ytohkjfdcmiiehaa.Num Go.Proofs.Ytohkjfdcmiiehaa.Sp Go.Proofs.YtohkjfdcmiiehaaW.PrintWords Go.Proofs.YtohkjfdcmiiehaaW.PrintLast Go.Proofs.YtohkjfdcmiiehaaW.PrintMore

theorem QuoSquares : astrolabelaw03_QuoSquares.Pure := by
  intro l0 _ _ h0
  have Na := cut_nm h0 30 30 rfl
  obtain ⟨pa, qa, _⟩ := cut_ok l0 30 (by decide)
  refine Ev.rounds ?_
  unfold astrolabelaw03_QuoSquares.f
  refine Ev.bind (f := fun k t => _) examples03 (Ev.ifp rfl (Ev.ifp pa (Ev.ifp qa ?_)))
  generalize l0.take (mn (l0.length : Int) 30).toNat = a at Na ⊢
  generalize val a = x at Na
  have Ns : Nm (dg (rt x)) (rt x) 30 := Nm.le Na (rt_self x)
  have Nr : Nm (dg (x - rt x * rt x)) (x - rt x * rt x) 30 := Nm.le Na (Nat.sub_le _ _)
  have NN := Nm.mul Ns Ns
  have S := Nm.add (k := 61) NN Nr (by decide) (by decide)
  have e1 : rt x * rt x + (x - rt x * rt x) = x := Nat.add_sub_cancel' (rt_sp x).1
  have M := Nm.mul Na Na
  have S2 := Nm.add (k := 31) Ns Ns (by decide) (by decide)
  have hQ := Ev.eq (Sqrt_n M (by decide)) (s := (dg x, [])) (by rw [rt_sq, Nat.sub_self, dg_zero])
  refine Ev.bind (f := fun k t => _) (Sqrt_n Na (by decide)) ?_
  refine Ev.bind (f := fun k t => _) (Mul_n Ns Ns (by decide) (by decide)) ?_
  refine Ev.bind (f := fun k t => _) (Add_n NN Nr (by decide) (by decide)) ?_
  refine Ev.bind (f := fun k t => _) (Trim_n Na (by decide)) ?_
  refine Ev.bind (f := fun k t => _) (digits03_n S e1 (by decide)) ?_
  refine Ev.bind (f := fun k t => _) (Mul_n Na Na (by decide) (by decide)) ?_
  refine Ev.bind (f := fun k t => _) hQ ?_
  refine Ev.bind (f := fun k t => _) (Trim_n Na (by decide)) ?_
  refine Ev.bind (f := fun k t => _) (digits03_n Na rfl (by decide)) ?_
  refine Ev.ifp rfl ?_
  refine Ev.bind (f := fun k t => _) (Add_n Ns Ns (by decide) (by decide)) ?_
  refine Ev.bind (f := fun k t => _) (Cmp_n Nr S2 (by decide) (by decide)) ?_
  exact Ev.ifp ((cmp_le _ _).2 (rest_le x)) (Ev.ifp rfl (Ev.now true))

end Go.Proofs.Ytohkjfdcmiiehaa.Pure
