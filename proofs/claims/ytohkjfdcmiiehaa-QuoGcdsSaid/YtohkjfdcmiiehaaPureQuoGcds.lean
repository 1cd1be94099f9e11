/- The greatest common divisor divides both; of both times a third number it is that so often; whichever comes first, it is the same: the pure statement of QuoGcds. -/
import Derived.Test.YtohkjfdcmiiehaaP20
import Derived.Test.YtohkjfdcmiiehaaQh
namespace Go.Proofs.Ytohkjfdcmiiehaa.Pure
open Go.RowKit Go.Proofs.Ytohkjfdcmiiehaa.P Go.Proofs.Ytohkjfdcmiiehaa.Num Go.Proofs.Ytohkjfdcmiiehaa.Sp Go.Proofs.YtohkjfdcmiiehaaW.PrintWords Go.Proofs.YtohkjfdcmiiehaaW.PrintLast Go.Proofs.YtohkjfdcmiiehaaW.PrintMore

theorem Gcds_no {a b c : List Int} {x y z : Nat} (Na : Nm a x 6) (Nb : Nm b y 6) (Nc : Nm c z 6) (Ng : Nm (dg (Nat.gcd x y)) (Nat.gcd x y) 6) (hg : Nat.gcd x y ≠ 0) : Ev (fun k => astrolabelaw03_QuoGcds.j0 k a b c true (dg (Nat.gcd x y)) true false) true := by
  have e1 : x % Nat.gcd x y = 0 := Nat.mod_eq_zero_of_dvd (Nat.gcd_dvd_left x y)
  have e2 : y % Nat.gcd x y = 0 := Nat.mod_eq_zero_of_dvd (Nat.gcd_dvd_right x y)
  have h1 := Ev.eq (DivMod_n Na Ng (by decide) (by decide) hg) (s := (dg (x / Nat.gcd x y), [], true)) (by rw [e1, dg_zero])
  have h2 := Ev.eq (DivMod_n Nb Ng (by decide) (by decide) hg) (s := (dg (y / Nat.gcd x y), [], true)) (by rw [e2, dg_zero])
  have M1 := Nm.mul Na Nc
  have M2 := Nm.mul Nb Nc
  have M3 := Nm.mul Ng Nc
  have hG := Gcd_n M1 M2 (by decide)
  rw [Nat.gcd_mul_right] at hG
  refine Ev.step (f := ?F) (fun k => ?_) ?_
  rotate_left
  · simp only [astrolabelaw03_QuoGcds.j0]
    rw [if_neg (by simp)]
  refine Ev.bind (f := fun k t => _) h1 ?_
  refine Ev.bind (f := fun k t => _) h2 ?_
  refine Ev.bind (f := fun k t => _) (Mul_n Na Nc (by decide) (by decide)) ?_
  refine Ev.bind (f := fun k t => _) (Mul_n Nb Nc (by decide) (by decide)) ?_
  refine Ev.bind (f := fun k t => _) hG ?_
  refine Ev.bind (f := fun k t => _) (Mul_n Ng Nc (by decide) (by decide)) ?_
  refine Ev.bind (f := fun k t => _) (digits03_n M3 rfl (by decide)) ?_
  exact Ev.ifp (by trivial) (Ev.ifp (by trivial) (Ev.ifp (by trivial) (Ev.ifp (by trivial) (Ev.ifp (by trivial) (Ev.ifp (by trivial) (Ev.now true))))))

theorem QuoGcds : astrolabelaw03_QuoGcds.Pure := by
  intro l0 l1 l2 _ _ h0 _ _ h1 _ _ h2
  have Na := cut_nm h0 6 6 rfl
  obtain ⟨pa, qa, _⟩ := cut_ok l0 6 (by decide)
  have Nb := cut_nm h1 6 6 rfl
  obtain ⟨pb, qb, _⟩ := cut_ok l1 6 (by decide)
  have Nc := cut_nm h2 6 6 rfl
  obtain ⟨pc, qc, _⟩ := cut_ok l2 6 (by decide)
  refine Ev.rounds ?_
  unfold astrolabelaw03_QuoGcds.f
  refine Ev.bind (f := fun k t => _) examples03 (Ev.ifp rfl (Ev.ifp pa (Ev.ifp qa (Ev.ifp pb (Ev.ifp qb (Ev.ifp pc (Ev.ifp qc ?_)))))))
  generalize l0.take (mn (l0.length : Int) 6).toNat = a at Na ⊢
  generalize val a = x at Na
  generalize l1.take (mn (l1.length : Int) 6).toNat = b at Nb ⊢
  generalize val b = y at Nb
  generalize l2.take (mn (l2.length : Int) 6).toNat = c at Nc ⊢
  generalize val c = z at Nc
  have Ng : Nm (dg (Nat.gcd x y)) (Nat.gcd x y) 6 := by
    by_cases hx : x = 0
    · rw [hx, Nat.gcd_zero_left]; exact Nb.dg
    · exact Nm.le Na (Nat.gcd_le_left y (Nat.pos_of_ne_zero hx))
  refine Ev.bind (f := fun k t => _) (Gcd_n Na Nb (by decide)) ?_
  refine Ev.bind (f := fun k t => _) (Gcd_n Nb Na (by decide)) ?_
  refine Ev.bind (f := fun k t => _) (digits03_n Ng (Nat.gcd_comm x y) (by decide)) ?_
  refine Ev.bind (f := fun k t => _) (Bits_n Na (by decide)) ?_
  by_cases hx : x = 0
  · refine Ev.ifp (bl_yes hx) (Ev.bind (f := fun k t => _) (Bits_n Nb (by decide)) ?_)
    by_cases hy : y = 0
    · subst hx hy
      refine Ev.step (f := fun _ => some true) (fun k => ?_) (Ev.now true)
      simp only [astrolabelaw03_QuoGcds.j0]
      rw [if_pos (by decide), if_pos trivial, if_pos trivial, Nat.gcd_zero_left, dg_zero]
      rfl
    · rw [show ((bl y : Int) == 0) = false from beq_eq_false_iff_ne.2 (bl_no hy)]
      exact Gcds_no Na Nb Nc Ng (by rw [hx, Nat.gcd_zero_left]; exact hy)
  · exact Ev.ifn (bl_no hx) (Gcds_no Na Nb Nc Ng (fun h => hx (Nat.eq_zero_of_gcd_eq_zero_left h)))

end Go.Proofs.Ytohkjfdcmiiehaa.Pure
