/- Any number has the root and the rest that the chapter says: the pure statement of QuoRoots. -/
import Derived.Test.YtohkjfdcmiiehaaP17
import Derived.Test.YtohkjfdcmiiehaaMQuoRoots
namespace Go.Proofs.Ytohkjfdcmiiehaa.Pure
open Go.RowKit Go.Proofs.Ytohkjfdcmiiehaa.P Go.Proofs.Ytohkjfdcmiiehaa.Num Go.Proofs.Ytohkjfdcmiiehaa.Sp Go.Proofs.YtohkjfdcmiiehaaW.PrintWords Go.Proofs.YtohkjfdcmiiehaaW.PrintLast Go.Proofs.YtohkjfdcmiiehaaW.PrintMore

theorem QuoRoots : astrolabelaw03_QuoRoots.Pure := by
  intro l0 _ _ h0
  have Na := cut_nm h0 30 30 rfl
  obtain ⟨pa, qa, _⟩ := cut_ok l0 30 (by decide)
  refine Ev.rounds ?_
  unfold astrolabelaw03_QuoRoots.f
  refine Ev.bind (f := fun k t => _) examples03 (Ev.ifp rfl (Ev.ifp pa (Ev.ifp qa ?_)))
  generalize l0.take (mn (l0.length : Int) 30).toNat = a at Na ⊢
  generalize val a = x at Na
  have Ns : Nm (dg (rt x)) (rt x) 30 := Nm.le Na (rt_self x)
  have Nr : Nm (dg (x - rt x * rt x)) (x - rt x * rt x) 30 := Nm.le Na (Nat.sub_le _ _)
  refine Ev.bind (f := fun k t => _) (Sqrt_n Na (by decide)) ?_
  refine Ev.bind (f := fun k t => _) (rSqrt_n Na) ?_
  refine Ev.bind (f := fun k t => _) (digits03_n Ns rfl (by decide)) ?_
  refine Ev.bind (f := fun k t => _) (digits03_n Nr rfl (by decide)) ?_
  exact Ev.ifp rfl (Ev.now true)

end Go.Proofs.Ytohkjfdcmiiehaa.Pure
