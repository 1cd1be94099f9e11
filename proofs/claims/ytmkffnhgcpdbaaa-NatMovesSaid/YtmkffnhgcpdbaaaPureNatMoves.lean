/- A number moved up or down, trimmed, made of a small one, read as one, its bits and each of them are those of the reference: the pure statement of NatMoves. -/
import Derived.Test.YtmkffnhgcpdbaaaP3
import Derived.Test.YtmkffnhgcpdbaaaP5
import Derived.Test.YtmkffnhgcpdbaaaP6
import Derived.Test.YtmkffnhgcpdbaaaP12
import Derived.Test.YtmkffnhgcpdbaaaSf
import Derived.Test.YtmkffnhgcpdbaaaRc
namespace Go.Proofs.Ytmkffnhgcpdbaaa.Pure
open Go.RowKit Go.Proofs.Ytmkffnhgcpdbaaa.P Go.Proofs.Ytmkffnhgcpdbaaa.Num Go.Proofs.Ytmkffnhgcpdbaaa.Sp Go.Proofs.YtmkffnhgcpdbaaaW.PrintWords Go.Proofs.YtmkffnhgcpdbaaaW.PrintLast Go.Proofs.YtmkffnhgcpdbaaaW.PrintMore

theorem shl_len {a : List Int} {x n : Nat} {s : Int} (ha : Nm a x n) (hn : n ≤ 1000) : (if 0 ≤ s ∧ s ≤ 100000 then (dg (x * 2 ^ s.toNat), true) else (([] : List Int), false)).1.length ≤ 1000000000 := by
  by_cases h : 0 ≤ s ∧ s ≤ 100000
  · rw [if_pos h]; exact Nat.le_trans (Nm.shl (s := s.toNat) ha).dg.len (by omega)
  · rw [if_neg h]; exact Nat.zero_le _
theorem shr_len {a : List Int} {x n : Nat} {s : Int} (ha : Nm a x n) (hn : n ≤ 1000) : (if s < 0 then dg x else dg (x / 2 ^ s.toNat)).length ≤ 1000000000 := by
  by_cases h : s < 0
  · rw [if_pos h]; exact Nat.le_trans ha.dg.len (by omega)
  · rw [if_neg h]; exact Nat.le_trans (Nm.le ha (Nat.div_le_self x _)).dg.len (by omega)

theorem NatMoves : astrolabelaw01_NatMoves.Pure := by
  intro l0 a1 a2 a3 _ _ h0 h1 h2 h3
  have Na := cut_nm h0 60 60 rfl
  obtain ⟨pa, qa, _⟩ := cut_ok l0 60 (by decide)
  have b1 : a1 ≤ 9223372036854775807 := by
    simp only [Lit.wf, IntKind.min, IntKind.max, IntKind.signed, IntKind.bits, Bool.and_eq_true] at h1
    simp at h1
    omega
  have b2 : a2 ≤ 9223372036854775807 := by
    simp only [Lit.wf, IntKind.min, IntKind.max, IntKind.signed, IntKind.bits, Bool.and_eq_true] at h2
    simp at h2
    omega
  have b3 : 0 ≤ a3 ∧ a3 < 18446744073709551616 := by
    simp only [Lit.wf, IntKind.min, IntKind.max, IntKind.signed, IntKind.bits, Bool.and_eq_true] at h3
    simp at h3
    omega
  refine Ev.rounds ?_
  unfold astrolabelaw01_NatMoves.f
  refine Ev.bind (f := fun k t => _) examples01 (Ev.ifp rfl (Ev.ifp pa (Ev.ifp qa ?_)))
  generalize l0.take (mn (l0.length : Int) 60).toNat = a at Na ⊢
  generalize val a = x at Na
  have la : a.length ≤ 100000000 := Nat.le_trans Na.len (by decide)
  have m1 : Ev (fun k => nat_Shl.f k a a1) (if 0 ≤ a1 ∧ a1 ≤ 100000 then (dg (x * 2 ^ a1.toNat), true) else ([], false)) := Ev.eq (Shl_sp Na.dig la) (by rw [Na.val])
  have r1 : Ev (fun k => astrolaberef01_Shl.f k a a1) (if 0 ≤ a1 ∧ a1 ≤ 100000 then (dg (x * 2 ^ a1.toNat), true) else ([], false)) := Ev.eq (rShl_sp Na.dig la) (by rw [Na.val])
  have m2 : Ev (fun k => nat_Shr.f k a a1) (if a1 < 0 then dg x else dg (x / 2 ^ a1.toNat)) := Ev.eq (Shr_sp Na.dig la b1) (by rw [Na.val])
  have r2 : Ev (fun k => astrolaberef01_Shr.f k a a1) (if a1 < 0 then dg x else dg (x / 2 ^ a1.toNat)) := Ev.eq (rShr_sp Na.dig la b1) (by rw [Na.val])
  have r3 : Ev (fun k => astrolaberef01_Trim.f k a) (dg x) := Ev.eq (rTrim_sp Na.dig (by omega)) (by rw [Na.val])
  have r5 : Ev (fun k => astrolaberef01_Small.f k a) (if x < 18446744073709551616 then ((x : Int), true) else (0, false)) := Ev.eq (rSmall_sp Na.dig (by omega)) (by rw [Na.val])
  have r6 : Ev (fun k => astrolaberef01_Bits.f k a) (bl x : Int) := Ev.eq (rBits_sp Na.dig (Nat.le_trans Na.len (by decide))) (by rw [Na.val])
  have m7 : Ev (fun _ => nat_Bit.f a a2) (if a2 < 0 then false else x.testBit a2.toNat) := Ev.congr (f := fun _ => some (if a2 < 0 then false else x.testBit a2.toNat)) (fun _ => by rw [Bit_sp Na.dig la b2, Na.val]) (Ev.now _)
  have r7 : Ev (fun _ => astrolaberef01_Bit.f a a2) (if a2 < 0 then false else x.testBit a2.toNat) := Ev.congr (f := fun _ => some (if a2 < 0 then false else x.testBit a2.toNat)) (fun _ => by rw [rBit_sp Na.dig b2, Na.val]) (Ev.now _)
  have l4 : (dg a3.toNat).length ≤ 1000000000 := Nat.le_trans (Nm.of (x := a3.toNat) (n := 2) (by omega)).dg.len (by decide)
  refine Ev.bind (f := fun k t => _) m1 ?_
  refine Ev.bind (f := fun k t => _) r1 ?_
  refine Ev.bind (f := fun k t => _) (digits01_t rfl (shl_len Na (by decide))) ?_
  refine Ev.bind (f := fun k t => _) m2 ?_
  refine Ev.bind (f := fun k t => _) r2 ?_
  refine Ev.bind (f := fun k t => _) (digits01_t rfl (shr_len Na (by decide))) ?_
  refine Ev.bind (f := fun k t => _) (Trim_n Na (by decide)) ?_
  refine Ev.bind (f := fun k t => _) r3 ?_
  refine Ev.bind (f := fun k t => _) (digits01_n Na rfl (by decide)) ?_
  refine Ev.bind (f := fun k t => _) (From_sp b3.1 b3.2) ?_
  refine Ev.bind (f := fun k t => _) (rFrom_sp b3.1 b3.2) ?_
  refine Ev.bind (f := fun k t => _) (digits01_t rfl l4) ?_
  refine Ev.bind (f := fun k t => _) (Small_n Na (by decide)) ?_
  refine Ev.bind (f := fun k t => _) r5 ?_
  refine Ev.ifp rfl (Ev.ifp rfl (Ev.ifp rfl (Ev.ifp rfl (Ev.ifp (beq_self_eq_true _) (Ev.ifp rfl (Ev.ifp (beq_self_eq_true _) ?_))))))
  refine Ev.bind (f := fun k t => _) (Bits_n Na (by decide)) ?_
  refine Ev.bind (f := fun k t => _) r6 ?_
  refine Ev.ifp rfl ?_
  refine Ev.bind (f := fun k t => _) m7 ?_
  refine Ev.bind (f := fun k t => _) r7 ?_
  exact Ev.eq (Ev.now _) (beq_self_eq_true _)

end Go.Proofs.Ytmkffnhgcpdbaaa.Pure
