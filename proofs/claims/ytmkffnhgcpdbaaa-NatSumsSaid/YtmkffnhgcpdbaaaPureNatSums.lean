/- Sums may be taken in any order; a sum less one part is the other one; nothing is below a part of itself: the pure statement of NatSums. -/
import Derived.Test.YtmkffnhgcpdbaaaP15
import Derived.Test.YtmkffnhgcpdbaaaSf
namespace Go.Proofs.Ytmkffnhgcpdbaaa.Pure
open Go.RowKit Go.Proofs.Ytmkffnhgcpdbaaa.P Go.Proofs.Ytmkffnhgcpdbaaa.Num Go.Proofs.Ytmkffnhgcpdbaaa.Sp Go.Proofs.YtmkffnhgcpdbaaaW.PrintWords Go.Proofs.YtmkffnhgcpdbaaaW.PrintLast Go.Proofs.YtmkffnhgcpdbaaaW.PrintMore

theorem cmp_sum (x y : Nat) : cmp (x + y) x ≥ 0 ∧ (cmp (x + y) x == 0) = ((bl y : Int) == 0) := by
  have hb : bl y = 0 ↔ y = 0 := by
    constructor
    · intro h; have := bl_le.1 (Nat.le_of_eq h); omega
    · intro h; subst h; rfl
  unfold cmp
  by_cases h : y = 0
  · subst h
    rw [if_neg (by omega), if_pos (by omega)]
    exact ⟨by decide, by decide⟩
  · rw [if_neg (by omega), if_neg (by omega)]
    refine ⟨by decide, ?_⟩
    have : ¬ bl y = 0 := fun h1 => h (hb.1 h1)
    rw [beq_eq_false_iff_ne.2 (by decide), beq_eq_false_iff_ne.2 (by omega)]

theorem NatSums : astrolabelaw01_NatSums.Pure := by
  intro l0 l1 l2 _ _ h0 _ _ h1 _ _ h2
  have Na := cut_nm h0 60 60 rfl
  obtain ⟨pa, qa, _⟩ := cut_ok l0 60 (by decide)
  have Nb := cut_nm h1 60 60 rfl
  obtain ⟨pb, qb, _⟩ := cut_ok l1 60 (by decide)
  have Nc := cut_nm h2 60 60 rfl
  obtain ⟨pc, qc, _⟩ := cut_ok l2 60 (by decide)
  refine Ev.rounds ?_
  unfold astrolabelaw01_NatSums.f
  refine Ev.bind (f := fun k t => _) examples01 (Ev.ifp rfl (Ev.ifp pa (Ev.ifp qa (Ev.ifp pb (Ev.ifp qb (Ev.ifp pc (Ev.ifp qc ?_)))))))
  generalize l0.take (mn (l0.length : Int) 60).toNat = a at Na ⊢
  generalize val a = x at Na
  generalize l1.take (mn (l1.length : Int) 60).toNat = b at Nb ⊢
  generalize val b = y at Nb
  generalize l2.take (mn (l2.length : Int) 60).toNat = c at Nc ⊢
  generalize val c = z at Nc
  have S := Nm.add (k := 61) Na Nb (by decide) (by decide)
  have S2 := Nm.add (k := 61) Nb Nc (by decide) (by decide)
  refine Ev.bind (f := fun k t => _) (Add_n Na Nb (by decide) (by decide)) ?_
  refine Ev.bind (f := fun k t => _) (Add_n Nb Na (by decide) (by decide)) ?_
  refine Ev.bind (f := fun k t => _) (digits01_n S (Nat.add_comm x y) (by decide)) ?_
  refine Ev.bind (f := fun k t => _) (Add_n S Nc (by decide) (by decide)) ?_
  refine Ev.bind (f := fun k t => _) (Add_n Nb Nc (by decide) (by decide)) ?_
  refine Ev.bind (f := fun k t => _) (Add_n Na S2 (by decide) (by decide)) ?_
  refine Ev.bind (f := fun k t => _) (digits01_n (Nm.add (k := 62) S Nc (by decide) (by decide)) (Nat.add_assoc x y z) (by decide)) ?_
  refine Ev.bind (f := fun k t => _) (Sub_y S Nb (by decide) (by decide) (Nat.le_add_left y x)) ?_
  refine Ev.bind (f := fun k t => _) (Trim_n Na (by decide)) ?_
  refine Ev.bind (f := fun k t => _) (digits01_n (Nm.le S (Nat.sub_le _ _)) (Nat.add_sub_cancel x y) (by decide)) ?_
  refine Ev.ifp rfl (Ev.ifp rfl (Ev.ifp rfl (Ev.ifp rfl ?_)))
  refine Ev.bind (f := fun k t => _) (Cmp_n S Na (by decide) (by decide)) ?_
  refine Ev.ifp (cmp_sum x y).1 ?_
  refine Ev.bind (f := fun k t => _) (Cmp_n S Na (by decide) (by decide)) ?_
  refine Ev.bind (f := fun k t => _) (Bits_n Nb (by decide)) ?_
  exact Ev.eq (Ev.now _) (by rw [(cmp_sum x y).2]; exact beq_self_eq_true _)

end Go.Proofs.Ytmkffnhgcpdbaaa.Pure
