/- Any two numbers have the product, any one the square, and any many digits need the steps, that the chapter says: the pure statement of KaraMuls. -/
import Derived.Test.YtpodpfppbkjbcaaP7
import Derived.Test.YtpodpfppbkjbcaaP10
import Derived.Test.YtpodpfppbkjbcaaKc
import Derived.Test.YtpodpfppbkjbcaaRc
namespace Go.Proofs.Ytpodpfppbkjbcaa.Pure
open Go.RowKit Go.Proofs.Ytpodpfppbkjbcaa.P Go.Proofs.Ytpodpfppbkjbcaa.Num Go.Proofs.Ytpodpfppbkjbcaa.Sp Go.Proofs.YtpodpfppbkjbcaaW.PrintWords Go.Proofs.YtpodpfppbkjbcaaW.PrintLast Go.Proofs.YtpodpfppbkjbcaaW.PrintMore

theorem rMul02_n {a b : List Int} {x y n m : Nat} (ha : Nm a x n) (hb : Nm b y m) (hn : n ≤ 100000000) (hm : m ≤ 100000000) : Ev (fun k => astrolaberef02_Mul.f k a b) (dg (x * y)) :=
  Ev.bind (f := fun _ t => some t) (Ev.eq (rMul_sp ha.dig hb.dig (Nat.le_trans ha.len hn) (Nat.le_trans hb.len hm)) (by rw [ha.val, hb.val])) (Ev.now _)

theorem KaraMuls : astrolabelaw02_KaraMuls.Pure := by
  intro l0 l1 a2 _ _ h0 _ _ h1 _
  have Na := cut_nm h0 80 80 rfl
  obtain ⟨pa, qa, _⟩ := cut_ok l0 80 (by decide)
  have Nb := cut_nm h1 80 80 rfl
  obtain ⟨pb, qb, _⟩ := cut_ok l1 80 (by decide)
  refine Ev.rounds ?_
  unfold astrolabelaw02_KaraMuls.f
  refine Ev.bind (f := fun k t => _) examples02 (Ev.ifp rfl (Ev.ifp pa (Ev.ifp qa (Ev.ifp pb (Ev.ifp qb ?_)))))
  generalize l0.take (mn (l0.length : Int) 80).toNat = a at Na ⊢
  generalize val a = x at Na
  generalize l1.take (mn (l1.length : Int) 80).toNat = b at Nb ⊢
  generalize val b = y at Nb
  have hs : mn a2 20000 ≤ 1000000 := by unfold mn; split <;> omega
  refine Ev.bind (f := fun k t => _) (kMul_n Na Nb (by decide) (by decide)) ?_
  refine Ev.bind (f := fun k t => _) (rMul02_n Na Nb (by decide) (by decide)) ?_
  refine Ev.bind (f := fun k t => _) (digits02_n (Nm.mul Na Nb) rfl (by decide)) ?_
  refine Ev.bind (f := fun k t => _) (kSquare_n Na (by decide)) ?_
  refine Ev.bind (f := fun k t => _) (rMul02_n Na Na (by decide) (by decide)) ?_
  refine Ev.bind (f := fun k t => _) (digits02_n (Nm.mul Na Na) rfl (by decide)) ?_
  refine Ev.ifp rfl (Ev.ifp rfl ?_)
  refine Ev.bind (f := fun k t => _) (Steps_int hs) ?_
  refine Ev.bind (f := fun k t => _) (rSteps_int hs) ?_
  exact Ev.eq (Ev.now _) (beq_self_eq_true _)

end Go.Proofs.Ytpodpfppbkjbcaa.Pure
