/- The sum, the product, the difference and the order of two numbers are those of the reference: the pure statement of NatReckons. -/
import Derived.Test.YtmkffnhgcpdbaaaP6
import Derived.Test.YtmkffnhgcpdbaaaP7
import Derived.Test.YtmkffnhgcpdbaaaP13
import Derived.Test.YtmkffnhgcpdbaaaSf
import Derived.Test.YtmkffnhgcpdbaaaRc
namespace Go.Proofs.Ytmkffnhgcpdbaaa.Pure
open Go.RowKit Go.Proofs.Ytmkffnhgcpdbaaa.P Go.Proofs.Ytmkffnhgcpdbaaa.Num Go.Proofs.Ytmkffnhgcpdbaaa.Sp Go.Proofs.YtmkffnhgcpdbaaaW.PrintWords Go.Proofs.YtmkffnhgcpdbaaaW.PrintLast Go.Proofs.YtmkffnhgcpdbaaaW.PrintMore

theorem sub_len {a : List Int} {x y n : Nat} (ha : Nm a x n) (hn : n ≤ 1000) : (if y ≤ x then (dg (x - y), true) else (([] : List Int), false)).1.length ≤ 1000000000 := by
  by_cases h : y ≤ x
  · rw [if_pos h]; exact Nat.le_trans (Nm.le ha (Nat.sub_le x y)).dg.len (by omega)
  · rw [if_neg h]; exact Nat.zero_le _

theorem NatReckons : astrolabelaw01_NatReckons.Pure := by
  intro l0 l1 _ _ h0 _ _ h1
  have Na := cut_nm h0 60 60 rfl
  obtain ⟨pa, qa, _⟩ := cut_ok l0 60 (by decide)
  have Nb := cut_nm h1 60 60 rfl
  obtain ⟨pb, qb, _⟩ := cut_ok l1 60 (by decide)
  refine Ev.rounds ?_
  unfold astrolabelaw01_NatReckons.f
  refine Ev.bind (f := fun k t => _) examples01 (Ev.ifp rfl (Ev.ifp pa (Ev.ifp qa (Ev.ifp pb (Ev.ifp qb ?_)))))
  generalize l0.take (mn (l0.length : Int) 60).toNat = a at Na ⊢
  generalize val a = x at Na
  generalize l1.take (mn (l1.length : Int) 60).toNat = b at Nb ⊢
  generalize val b = y at Nb
  have la : a.length ≤ 100000000 := Nat.le_trans Na.len (by decide)
  have lb : b.length ≤ 100000000 := Nat.le_trans Nb.len (by decide)
  have rA : Ev (fun k => astrolaberef01_Add.f k a b) (dg (x + y)) := Ev.eq (rAdd_sp Na.dig Nb.dig la lb) (by rw [Na.val, Nb.val])
  have rM : Ev (fun k => astrolaberef01_Mul.f k a b) (dg (x * y)) := Ev.eq (rMul_sp Na.dig Nb.dig la lb) (by rw [Na.val, Nb.val])
  have rS : Ev (fun k => astrolaberef01_Sub.f k a b) (if y ≤ x then (dg (x - y), true) else ([], false)) := Ev.eq (rSub_sp Na.dig Nb.dig la lb) (by rw [Na.val, Nb.val])
  have rC : Ev (fun k => astrolaberef01_Cmp.f k a b) (cmp x y) := Ev.eq (rCmp_sp Na.dig Nb.dig la lb) (by rw [Na.val, Nb.val])
  refine Ev.bind (f := fun k t => _) (Add_n Na Nb (by decide) (by decide)) ?_
  refine Ev.bind (f := fun k t => _) rA ?_
  refine Ev.bind (f := fun k t => _) (digits01_n (Nm.add (k := 61) Na Nb (by decide) (by decide)) rfl (by decide)) ?_
  refine Ev.bind (f := fun k t => _) (Mul_n Na Nb (by decide) (by decide)) ?_
  refine Ev.bind (f := fun k t => _) rM ?_
  refine Ev.bind (f := fun k t => _) (digits01_n (Nm.mul Na Nb) rfl (by decide)) ?_
  refine Ev.bind (f := fun k t => _) (Sub_n Na Nb (by decide) (by decide)) ?_
  refine Ev.bind (f := fun k t => _) rS ?_
  refine Ev.bind (f := fun k t => _) (digits01_t rfl (sub_len Na (by decide))) ?_
  refine Ev.ifp rfl (Ev.ifp rfl (Ev.ifp rfl (Ev.ifp (beq_self_eq_true _) ?_)))
  refine Ev.bind (f := fun k t => _) (Cmp_n Na Nb (by decide) (by decide)) ?_
  refine Ev.bind (f := fun k t => _) rC ?_
  exact Ev.eq (Ev.now _) (beq_self_eq_true _)

end Go.Proofs.Ytmkffnhgcpdbaaa.Pure
