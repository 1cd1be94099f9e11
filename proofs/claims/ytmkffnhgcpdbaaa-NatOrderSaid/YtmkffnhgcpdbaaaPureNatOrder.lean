/- Of two numbers the one is not below the other one just if it may be taken away from it; more bits are more; of three that rise the first is not above the last: the pure statement of NatOrder. -/
import Derived.Test.YtmkffnhgcpdbaaaP4
import Derived.Test.YtmkffnhgcpdbaaaP14
import Derived.Test.YtmkffnhgcpdbaaaSf
namespace Go.Proofs.Ytmkffnhgcpdbaaa.Pure
open Go.RowKit Go.Proofs.Ytmkffnhgcpdbaaa.P Go.Proofs.Ytmkffnhgcpdbaaa.Num Go.Proofs.Ytmkffnhgcpdbaaa.Sp Go.Proofs.YtmkffnhgcpdbaaaW.PrintWords Go.Proofs.YtmkffnhgcpdbaaaW.PrintLast Go.Proofs.YtmkffnhgcpdbaaaW.PrintMore

theorem cmp_flip (x y : Nat) : cmp y x = wrap64 (-(cmp x y)) := by
  unfold cmp
  by_cases h : x < y
  · rw [if_neg (by omega), if_neg (by omega), if_pos h]; unfold wrap64; decide
  · by_cases h1 : x = y
    · subst h1; rw [if_neg (by omega), if_pos rfl]; unfold wrap64; decide
    · rw [if_pos (by omega), if_neg h, if_neg h1]; unfold wrap64; decide
theorem cmp_ge (x y : Nat) : cmp x y ≥ 0 ↔ y ≤ x := by
  unfold cmp
  by_cases h : x < y
  · rw [if_pos h]; constructor
    · intro h1; exact absurd h1 (by decide)
    · intro h1; omega
  · rw [if_neg h]; split <;> constructor <;> intros <;> first | omega | decide
theorem cmp_gt (x y : Nat) : cmp x y > 0 ↔ y < x := by
  unfold cmp
  by_cases h : x < y
  · rw [if_pos h]; constructor
    · intro h1; exact absurd h1 (by decide)
    · intro h1; omega
  · rw [if_neg h]; split <;> constructor <;> intro h1 <;> first | omega | decide | exact absurd h1 (by decide)
theorem cmp_self (x : Nat) : cmp x x = 0 := by unfold cmp; rw [if_neg (Nat.lt_irrefl _), if_pos rfl]
theorem bl_mono {x y : Nat} (h : x ≤ y) : bl x ≤ bl y := bl_le.2 (Nat.lt_of_le_of_lt h (bl_le.1 (Nat.le_refl _)))

theorem NatOrder : astrolabelaw01_NatOrder.Pure := by
  intro l0 l1 l2 _ _ h0 _ _ h1 _ _ h2
  have Na := cut_nm h0 60 60 rfl
  obtain ⟨pa, qa, _⟩ := cut_ok l0 60 (by decide)
  have Nb := cut_nm h1 60 60 rfl
  obtain ⟨pb, qb, _⟩ := cut_ok l1 60 (by decide)
  have Nc := cut_nm h2 60 60 rfl
  obtain ⟨pc, qc, _⟩ := cut_ok l2 60 (by decide)
  refine Ev.rounds ?_
  unfold astrolabelaw01_NatOrder.f
  refine Ev.bind (f := fun k t => _) examples01 (Ev.ifp rfl (Ev.ifp pa (Ev.ifp qa (Ev.ifp pb (Ev.ifp qb (Ev.ifp pc (Ev.ifp qc ?_)))))))
  generalize l0.take (mn (l0.length : Int) 60).toNat = a at Na ⊢
  generalize val a = x at Na
  generalize l1.take (mn (l1.length : Int) 60).toNat = b at Nb ⊢
  generalize val b = y at Nb
  generalize l2.take (mn (l2.length : Int) 60).toNat = c at Nc ⊢
  generalize val c = z at Nc
  refine Ev.bind (f := fun k t => _) (Cmp_n Na Nb (by decide) (by decide)) ?_
  refine Ev.bind (f := fun k t => _) (Cmp_n Nb Nc (by decide) (by decide)) ?_
  refine Ev.bind (f := fun k t => _) (Cmp_n Na Nc (by decide) (by decide)) ?_
  refine Ev.bind (f := fun k t => _) (Sub_n Na Nb (by decide) (by decide)) ?_
  refine Ev.bind (f := fun k t => _) (Cmp_n Nb Na (by decide) (by decide)) ?_
  refine Ev.ifp (cmp_flip x y) (Ev.ifp ?_ ?_)
  · by_cases h : y ≤ x
    · rw [if_pos h, decide_eq_true ((cmp_ge x y).2 h)]; rfl
    · rw [if_neg h, decide_eq_false (fun h1 => h ((cmp_ge x y).1 h1))]; rfl
  have last : Ev (fun k => (nat_Cmp.f k a a).bind fun t => some (t == 0)) true := Ev.bind (f := fun _ t => some (t == 0)) (Cmp_n Na Na (by decide) (by decide)) (Ev.eq (Ev.now _) (by rw [cmp_self]; rfl))
  by_cases h1 : y < x
  · refine Ev.ifp ((cmp_gt x y).2 h1) ?_
    refine Ev.bind (f := fun k t => _) (Bits_n Na (by decide)) ?_
    refine Ev.bind (f := fun k t => _) (Bits_n Nb (by decide)) ?_
    by_cases h2 : bl x ≤ bl y
    · exact Ev.ifp (Int.ofNat_le.2 h2) last
    · exact Ev.ifn (fun h => h2 (Int.ofNat_le.1 h)) last
  · have hbl := bl_mono (Nat.le_of_not_lt h1)
    refine Ev.ifn (fun h => h1 ((cmp_gt x y).1 h)) ?_
    by_cases h2 : z < y
    · refine Ev.ifp ((cmp_gt y z).2 h2) ?_
      refine Ev.bind (f := fun k t => _) (Bits_n Na (by decide)) ?_
      refine Ev.bind (f := fun k t => _) (Bits_n Nb (by decide)) ?_
      exact Ev.ifp (Int.ofNat_le.2 hbl) last
    · refine Ev.ifn (fun h => h2 ((cmp_gt y z).1 h)) (Ev.ifp ?_ ?_)
      · have := fun h => (cmp_gt x z).1 h
        omega
      refine Ev.bind (f := fun k t => _) (Bits_n Na (by decide)) ?_
      refine Ev.bind (f := fun k t => _) (Bits_n Nb (by decide)) ?_
      exact Ev.ifp (Int.ofNat_le.2 hbl) last

end Go.Proofs.Ytmkffnhgcpdbaaa.Pure
