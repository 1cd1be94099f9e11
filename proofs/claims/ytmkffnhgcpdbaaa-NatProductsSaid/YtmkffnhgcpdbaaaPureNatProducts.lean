/- Products may be taken in any order; a product with a sum is the sum of both products; with nought it is nought, with 1 the number: the pure statement of NatProducts. -/
import Derived.Test.YtmkffnhgcpdbaaaP10
import Derived.Test.YtmkffnhgcpdbaaaSf
namespace Go.Proofs.Ytmkffnhgcpdbaaa.Pure
open Go.RowKit Go.Proofs.Ytmkffnhgcpdbaaa.P Go.Proofs.Ytmkffnhgcpdbaaa.Num Go.Proofs.Ytmkffnhgcpdbaaa.Sp Go.Proofs.YtmkffnhgcpdbaaaW.PrintWords Go.Proofs.YtmkffnhgcpdbaaaW.PrintLast Go.Proofs.YtmkffnhgcpdbaaaW.PrintMore

theorem NatProducts : astrolabelaw01_NatProducts.Pure := by
  intro l0 l1 l2 _ _ h0 _ _ h1 _ _ h2
  have Na := cut_nm h0 40 40 rfl
  obtain ⟨pa, qa, _⟩ := cut_ok l0 40 (by decide)
  have Nb := cut_nm h1 40 40 rfl
  obtain ⟨pb, qb, _⟩ := cut_ok l1 40 (by decide)
  have Nc := cut_nm h2 40 40 rfl
  obtain ⟨pc, qc, _⟩ := cut_ok l2 40 (by decide)
  refine Ev.rounds ?_
  unfold astrolabelaw01_NatProducts.f
  refine Ev.bind (f := fun k t => _) examples01 (Ev.ifp rfl (Ev.ifp pa (Ev.ifp qa (Ev.ifp pb (Ev.ifp qb (Ev.ifp pc (Ev.ifp qc ?_)))))))
  generalize l0.take (mn (l0.length : Int) 40).toNat = a at Na ⊢
  generalize val a = x at Na
  generalize l1.take (mn (l1.length : Int) 40).toNat = b at Nb ⊢
  generalize val b = y at Nb
  generalize l2.take (mn (l2.length : Int) 40).toNat = c at Nc ⊢
  generalize val c = z at Nc
  have P := Nm.mul Na Nb
  have P2 := Nm.mul Nb Nc
  have P3 := Nm.mul Na Nc
  have S := Nm.add (k := 41) Nb Nc (by decide) (by decide)
  refine Ev.bind (f := fun k t => _) (Mul_n Na Nb (by decide) (by decide)) ?_
  refine Ev.bind (f := fun k t => _) (Mul_n Nb Na (by decide) (by decide)) ?_
  refine Ev.bind (f := fun k t => _) (digits01_n P (Nat.mul_comm x y) (by decide)) ?_
  refine Ev.bind (f := fun k t => _) (Mul_n P Nc (by decide) (by decide)) ?_
  refine Ev.bind (f := fun k t => _) (Mul_n Nb Nc (by decide) (by decide)) ?_
  refine Ev.bind (f := fun k t => _) (Mul_n Na P2 (by decide) (by decide)) ?_
  refine Ev.bind (f := fun k t => _) (digits01_n (Nm.mul P Nc) (Nat.mul_assoc x y z) (by decide)) ?_
  refine Ev.bind (f := fun k t => _) (Add_n Nb Nc (by decide) (by decide)) ?_
  refine Ev.bind (f := fun k t => _) (Mul_n Na S (by decide) (by decide)) ?_
  refine Ev.bind (f := fun k t => _) (Mul_n Na Nc (by decide) (by decide)) ?_
  refine Ev.bind (f := fun k t => _) (Add_n P P3 (by decide) (by decide)) ?_
  refine Ev.bind (f := fun k t => _) (digits01_n (Nm.mul Na S) (Nat.mul_add x y z) (by decide)) ?_
  refine Ev.bind (f := fun k t => _) (Mul_n Na (nm2 (d := 1) (e := 0) (by decide) (by decide)) (by decide) (by decide)) ?_
  refine Ev.bind (f := fun k t => _) (Trim_n Na (by decide)) ?_
  refine Ev.bind (f := fun k t => _) (digits01_n (Nm.mul Na (nm2 (d := 1) (e := 0) (by decide) (by decide))) (show x * ((1 : Int).toNat + 4294967296 * (0 : Int).toNat) = x from Nat.mul_one x) (by decide)) ?_
  refine Ev.ifp rfl (Ev.ifp rfl (Ev.ifp rfl (Ev.ifp rfl ?_)))
  refine Ev.bind (f := fun k t => _) (Mul_n Na (nm1 (d := 0) (by decide)) (by decide) (by decide)) ?_
  exact Ev.eq (Ev.now _) (by rw [show x * (0 : Int).toNat = 0 from Nat.mul_zero x, dg_zero]; rfl)

end Go.Proofs.Ytmkffnhgcpdbaaa.Pure
