/- More digits never need fewer steps; from 12 digits on there are fewer than by the way of the school: the pure statement of KaraFewer. -/
import Derived.Test.YtpodpfppbkjbcaaP5
import Derived.Test.YtpodpfppbkjbcaaP9
import Derived.Test.YtpodpfppbkjbcaaKc
namespace Go.Proofs.Ytpodpfppbkjbcaa.Pure
open Go.RowKit Go.Proofs.Ytpodpfppbkjbcaa.P Go.Proofs.Ytpodpfppbkjbcaa.Num Go.Proofs.Ytpodpfppbkjbcaa.Sp Go.Proofs.YtpodpfppbkjbcaaW.PrintWords Go.Proofs.YtpodpfppbkjbcaaW.PrintLast Go.Proofs.YtpodpfppbkjbcaaW.PrintMore

theorem Fewer {m : Nat} (hm : m ≤ 20000) (t : Int) (ht : t = (m : Int)) : Ev (fun k => (kara_Steps.f k t).bind fun t264 => ((kara_Steps.f k (wrap64 (t + 1))).bind fun t265 => (if t264 ≤ t265 then (if t < 12 then (some true) else (some (decide (t264 < (wrap64 (t * t)))))) else (none)))) true := by
  subst ht
  have e1 : wrap64 ((m : Int) + 1) = ((m + 1 : Nat) : Int) := by rw [w64] <;> omega
  rw [e1]
  refine Ev.bind (f := fun k t => _) (Steps_nat m (by omega)) (Ev.bind (f := fun k t => _) (Steps_nat (m + 1) (by omega)) ?_)
  refine Ev.ifp (Int.ofNat_le.2 (stp_mono m)) ?_
  by_cases h : m < 12
  · exact Ev.ifp (by omega) (Ev.now _)
  · refine Ev.ifn (by omega) (Ev.eq (Ev.now _) ?_)
    have hb : m * m ≤ 20000 * 20000 := Nat.mul_le_mul hm hm
    have hs := stp_lt m (by omega)
    rw [← Int.natCast_mul]
    generalize m * m = q at hb hs
    rw [w64 (by omega) (by omega)]
    exact decide_eq_true (by omega)

theorem KaraFewer : astrolabelaw02_KaraFewer.Pure := by
  intro a0 h0
  obtain ⟨m, _, hm⟩ := fold_neg h0
  refine Ev.rounds ?_
  unfold astrolabelaw02_KaraFewer.f
  have hl : m % 20001 ≤ 20000 := by omega
  refine Ev.bind (f := fun k t => _) examples02 (Ev.ifp rfl ?_)
  by_cases h : a0 < 0
  · rw [if_pos h] at hm
    refine Ev.ifp h ?_
    rw [hm]
    exact Fewer hl _ rfl
  · rw [if_neg h] at hm
    refine Ev.ifn h ?_
    rw [hm]
    exact Fewer hl _ rfl

end Go.Proofs.Ytpodpfppbkjbcaa.Pure
