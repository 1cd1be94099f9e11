/- Of two numbers that rise the roots do not fall, nor the quotients by one divisor; of a number four times as great the root is twice as great, or one more: the pure statement of QuoRising. -/
import Derived.Test.YtohkjfdcmiiehaaP23
import Derived.Test.YtohkjfdcmiiehaaQh
namespace Go.Proofs.Ytohkjfdcmiiehaa.Pure
open Go.RowKit Go.Proofs.Ytohkjfdcmiiehaa.P Go.Proofs.Ytohkjfdcmiiehaa.Num Go.Proofs.Ytohkjfdcmiiehaa.Sp Go.Proofs.YtohkjfdcmiiehaaW.PrintWords Go.Proofs.YtohkjfdcmiiehaaW.PrintLast Go.Proofs.YtohkjfdcmiiehaaW.PrintMore

theorem QuoRising : astrolabelaw03_QuoRising.Pure := by
  intro l0 l1 l2 _ _ h0 _ _ h1 _ _ h2
  have Na := cut_nm h0 20 20 rfl
  obtain ⟨pa, qa, _⟩ := cut_ok l0 20 (by decide)
  have Nb := cut_nm h1 20 20 rfl
  obtain ⟨pb, qb, _⟩ := cut_ok l1 20 (by decide)
  have Nc := cut_nm h2 20 20 rfl
  obtain ⟨pc, qc, _⟩ := cut_ok l2 20 (by decide)
  refine Ev.rounds ?_
  unfold astrolabelaw03_QuoRising.f
  refine Ev.bind (f := fun k t => _) examples03 (Ev.ifp rfl (Ev.ifp pa (Ev.ifp qa (Ev.ifp pb (Ev.ifp qb (Ev.ifp pc (Ev.ifp qc ?_)))))))
  generalize l0.take (mn (l0.length : Int) 20).toNat = a at Na ⊢
  generalize val a = x at Na
  generalize l1.take (mn (l1.length : Int) 20).toNat = b at Nb ⊢
  generalize val b = y at Nb
  generalize l2.take (mn (l2.length : Int) 20).toNat = c at Nc ⊢
  generalize val c = z at Nc
  have one : Nm [1] 1 1 := nm1 (d := 1) (by decide)
  refine Ev.bind (f := fun k t => _) (Cmp_n Na Nb (by decide) (by decide)) ?_
  by_cases h : x ≤ y
  · refine Ev.ifn (fun h1 => absurd ((cmp_le x y).2 h) (Int.not_le.2 h1)) ?_
    have hle := h
    have Ns : Nm (dg (rt x)) (rt x) 20 := Nm.le Na (rt_self x)
    have Nt : Nm (dg (rt y)) (rt y) 20 := Nm.le Nb (rt_self y)
    have NU : Nm (dg (x * 2 ^ 2)) (x * 2 ^ 2) 21 := Nm.shl Na
    have Nu : Nm (dg (rt (x * 2 ^ 2))) (rt (x * 2 ^ 2)) 21 := Nm.le NU (rt_self _)
    have N2 := Nm.add (k := 21) Ns Ns (by decide) (by decide)
    obtain ⟨f1, f2⟩ := rt_four x
    have Nl : Nm (dg (rt (x * 2 ^ 2) - (rt x + rt x))) (rt (x * 2 ^ 2) - (rt x + rt x)) 21 := Nm.le Nu (Nat.sub_le _ _)
    refine Ev.bind (f := fun k t => _) (Sqrt_n Na (by decide)) ?_
    refine Ev.bind (f := fun k t => _) (Sqrt_n Nb (by decide)) ?_
    refine Ev.bind (f := fun k t => _) (Shl_n (s := 2) Na (by decide) (by decide)) ?_
    refine Ev.bind (f := fun k t => _) (Sqrt_n NU (by decide)) ?_
    refine Ev.bind (f := fun k t => _) (Add_n Ns Ns (by decide) (by decide)) ?_
    refine Ev.bind (f := fun k t => _) (Sub_y Nu N2 (by decide) (by decide) f1) ?_
    by_cases hz : z = 0
    · subst hz
      refine Ev.bind (f := fun k t => _) (DivMod_0 Na Nc (by decide) (by decide)) ?_
      refine Ev.bind (f := fun k t => _) (DivMod_0 Nb Nc (by decide) (by decide)) ?_
      refine Ev.bind (f := fun k t => _) (Cmp_n Ns Nt (by decide) (by decide)) ?_
      refine Ev.ifp ((cmp_le _ _).2 (rt_mono hle)) (Ev.ifp rfl (Ev.ifp rfl ?_))
      refine Ev.bind (f := fun k t => _) (Cmp_n Nl one (by decide) (by decide)) ?_
      refine Ev.ifp ((cmp_le _ _).2 f2) (Ev.ifp rfl ?_)
      refine Ev.bind (f := fun k t => _) (Cmp_n nilN nilN (by decide) (by decide)) ?_
      exact Ev.now true
    · have q1 : Nm (dg (x / z)) (x / z) 20 := Nm.le Na (Nat.div_le_self _ _)
      have q2 : Nm (dg (y / z)) (y / z) 20 := Nm.le Nb (Nat.div_le_self _ _)
      refine Ev.bind (f := fun k t => _) (DivMod_n Na Nc (by decide) (by decide) hz) ?_
      refine Ev.bind (f := fun k t => _) (DivMod_n Nb Nc (by decide) (by decide) hz) ?_
      refine Ev.bind (f := fun k t => _) (Cmp_n Ns Nt (by decide) (by decide)) ?_
      refine Ev.ifp ((cmp_le _ _).2 (rt_mono hle)) (Ev.ifp rfl (Ev.ifp rfl ?_))
      refine Ev.bind (f := fun k t => _) (Cmp_n Nl one (by decide) (by decide)) ?_
      refine Ev.ifp ((cmp_le _ _).2 f2) (Ev.ifp rfl ?_)
      refine Ev.bind (f := fun k t => _) (Cmp_n q1 q2 (by decide) (by decide)) ?_
      exact Ev.eq (Ev.now _) (decide_eq_true ((cmp_le _ _).2 (Nat.div_le_div_right hle)))
  · refine Ev.ifp (Int.not_le.1 (fun h1 => h ((cmp_le x y).1 h1))) ?_
    have hle := Nat.le_of_lt (Nat.lt_of_not_le h)
    have Ns : Nm (dg (rt y)) (rt y) 20 := Nm.le Nb (rt_self y)
    have Nt : Nm (dg (rt x)) (rt x) 20 := Nm.le Na (rt_self x)
    have NU : Nm (dg (y * 2 ^ 2)) (y * 2 ^ 2) 21 := Nm.shl Nb
    have Nu : Nm (dg (rt (y * 2 ^ 2))) (rt (y * 2 ^ 2)) 21 := Nm.le NU (rt_self _)
    have N2 := Nm.add (k := 21) Ns Ns (by decide) (by decide)
    obtain ⟨f1, f2⟩ := rt_four y
    have Nl : Nm (dg (rt (y * 2 ^ 2) - (rt y + rt y))) (rt (y * 2 ^ 2) - (rt y + rt y)) 21 := Nm.le Nu (Nat.sub_le _ _)
    refine Ev.bind (f := fun k t => _) (Sqrt_n Nb (by decide)) ?_
    refine Ev.bind (f := fun k t => _) (Sqrt_n Na (by decide)) ?_
    refine Ev.bind (f := fun k t => _) (Shl_n (s := 2) Nb (by decide) (by decide)) ?_
    refine Ev.bind (f := fun k t => _) (Sqrt_n NU (by decide)) ?_
    refine Ev.bind (f := fun k t => _) (Add_n Ns Ns (by decide) (by decide)) ?_
    refine Ev.bind (f := fun k t => _) (Sub_y Nu N2 (by decide) (by decide) f1) ?_
    by_cases hz : z = 0
    · subst hz
      refine Ev.bind (f := fun k t => _) (DivMod_0 Nb Nc (by decide) (by decide)) ?_
      refine Ev.bind (f := fun k t => _) (DivMod_0 Na Nc (by decide) (by decide)) ?_
      refine Ev.bind (f := fun k t => _) (Cmp_n Ns Nt (by decide) (by decide)) ?_
      refine Ev.ifp ((cmp_le _ _).2 (rt_mono hle)) (Ev.ifp rfl (Ev.ifp rfl ?_))
      refine Ev.bind (f := fun k t => _) (Cmp_n Nl one (by decide) (by decide)) ?_
      refine Ev.ifp ((cmp_le _ _).2 f2) (Ev.ifp rfl ?_)
      refine Ev.bind (f := fun k t => _) (Cmp_n nilN nilN (by decide) (by decide)) ?_
      exact Ev.now true
    · have q1 : Nm (dg (y / z)) (y / z) 20 := Nm.le Nb (Nat.div_le_self _ _)
      have q2 : Nm (dg (x / z)) (x / z) 20 := Nm.le Na (Nat.div_le_self _ _)
      refine Ev.bind (f := fun k t => _) (DivMod_n Nb Nc (by decide) (by decide) hz) ?_
      refine Ev.bind (f := fun k t => _) (DivMod_n Na Nc (by decide) (by decide) hz) ?_
      refine Ev.bind (f := fun k t => _) (Cmp_n Ns Nt (by decide) (by decide)) ?_
      refine Ev.ifp ((cmp_le _ _).2 (rt_mono hle)) (Ev.ifp rfl (Ev.ifp rfl ?_))
      refine Ev.bind (f := fun k t => _) (Cmp_n Nl one (by decide) (by decide)) ?_
      refine Ev.ifp ((cmp_le _ _).2 f2) (Ev.ifp rfl ?_)
      refine Ev.bind (f := fun k t => _) (Cmp_n q1 q2 (by decide) (by decide)) ?_
      exact Ev.eq (Ev.now _) (decide_eq_true ((cmp_le _ _).2 (Nat.div_le_div_right hle)))

end Go.Proofs.Ytohkjfdcmiiehaa.Pure
