/- Moved up, and down again, a number is as it was; moved up it is so often doubled, has so many bits more, and its bits stand so much higher: the pure statement of NatThere. -/
import Derived.Test.YtmkffnhgcpdbaaaP3
import Derived.Test.YtmkffnhgcpdbaaaP11
import Derived.Test.YtmkffnhgcpdbaaaSf
namespace Go.Proofs.Ytmkffnhgcpdbaaa.Pure
open Go.RowKit Go.Proofs.Ytmkffnhgcpdbaaa.P Go.Proofs.Ytmkffnhgcpdbaaa.Num Go.Proofs.Ytmkffnhgcpdbaaa.Sp Go.Proofs.YtmkffnhgcpdbaaaW.PrintWords Go.Proofs.YtmkffnhgcpdbaaaW.PrintLast Go.Proofs.YtmkffnhgcpdbaaaW.PrintMore

theorem fold_neg {n : Int} (h : (Lit.int .i64 n).wf = true) : ∃ m : Nat, m ≤ 9223372036854775807 ∧ (if n < 0 then wrap64 (-(wrap64 (n + 1))) else n) = (m : Int) := by
  simp only [Lit.wf, IntKind.min, IntKind.max, IntKind.signed, IntKind.bits, Bool.and_eq_true] at h
  simp at h
  by_cases h0 : n < 0
  · refine ⟨(-(n + 1)).toNat, by omega, ?_⟩
    rw [if_pos h0, w64 (x := n + 1) (by omega) (by omega), w64 (by omega) (by omega)]
    omega
  · exact ⟨n.toNat, by omega, by rw [if_neg h0]; omega⟩

theorem There_j2 {a : List Int} {x n i : Nat} (Na : Nm a x 40) (hn : n ≤ 3000) (hi : i ≤ 3000) :
    Ev (fun k => astrolabelaw01_NatThere.j2 k a n i true (dg (x * 2 ^ n)) true true true true true) true := by
  have U : Nm (dg (x * 2 ^ n)) (x * 2 ^ n) 200 := (Nm.shl Na).mono (by omega)
  have hb : bl x ≤ 32 * 40 := bl_le.2 (by have := Na.lt; rw [pow32] at this; exact this)
  have e1 : wrap64 ((i : Int) + (n : Int)) = ((i + n : Nat) : Int) := by rw [w64] <;> omega
  have e2 : wrap64 ((bl x : Int) + (i : Int)) = ((bl x + i : Nat) : Int) := by rw [w64] <;> omega
  have t1 : (x * 2 ^ n).testBit (i + n) = x.testBit i := by
    rw [Nat.testBit_mul_two_pow, decide_eq_true (Nat.le_add_left n i), Bool.true_and, Nat.add_sub_cancel]
  have t2 : x.testBit (bl x + i) = false := by
    apply Nat.testBit_lt_two_pow
    exact Nat.lt_of_lt_of_le (bl_le.1 (Nat.le_refl _)) (Nat.pow_le_pow_right (by decide) (Nat.le_add_right _ _))
  have B1 : Ev (fun k => nat_Bit.f (dg (x * 2 ^ n)) (wrap64 ((i : Int) + (n : Int)))) (x.testBit i) := Ev.congr (f := fun _ => some (x.testBit i)) (fun _ => by rw [e1, Bit_n U (by decide) (by omega), t1]) (Ev.now _)
  have B2 : Ev (fun k => nat_Bit.f a i) (x.testBit i) := Ev.congr (f := fun _ => some (x.testBit i)) (fun _ => by rw [Bit_n Na (by decide) (by omega)]) (Ev.now _)
  have B3 : Ev (fun k => nat_Bit.f a (wrap64 ((bl x : Int) + (i : Int)))) false := Ev.congr (f := fun _ => some false) (fun _ => by rw [e2, Bit_n Na (by decide) (by omega), t2]) (Ev.now _)
  refine Ev.step (f := ?F) (fun k => ?_) ?_
  rotate_left
  · simp only [astrolabelaw01_NatThere.j2]
    rfl
  refine Ev.ifp (by trivial) (Ev.ifp (by trivial) (Ev.ifp (by trivial) (Ev.ifp (by trivial) (Ev.ifp (by trivial) (Ev.ifp (by trivial) ?_)))))
  refine Ev.bind (f := fun k t => _) B1 (Ev.bind (f := fun k t => _) B2 (Ev.ifp (beq_self_eq_true _) ?_))
  refine Ev.bind (f := fun k t => _) (Bits_n Na (by decide)) (Ev.bind (f := fun k t => _) B3 ?_)
  exact Ev.now true

theorem There_j1 {a : List Int} {x : Nat} (n i : Nat) (Na : Nm a x 40) :
    Ev (fun k => astrolabelaw01_NatThere.j1 k a n i true) true := by
  have en : Int.tmod (n : Int) 3001 = ((n % 3001 : Nat) : Int) := rfl
  have ei : Int.tmod (i : Int) 3001 = ((i % 3001 : Nat) : Int) := rfl
  have hn : n % 3001 ≤ 3000 := by omega
  have hi : i % 3001 ≤ 3000 := by omega
  refine Ev.step (f := ?F) (fun k => ?_) ?_
  rotate_left
  · simp only [astrolabelaw01_NatThere.j1]
    rw [en, ei]
  generalize n % 3001 = n at hn
  generalize i % 3001 = i at hi
  have hb : bl x ≤ 32 * 40 := bl_le.2 (by have := Na.lt; rw [pow32] at this; exact this)
  have U : Nm (dg (x * 2 ^ n)) (x * 2 ^ n) 200 := (Nm.shl Na).mono (by omega)
  have one : Nm [1] 1 1 := nm1 (d := 1) (by decide)
  have O : Nm (dg (1 * 2 ^ n)) (1 * 2 ^ n) 200 := (Nm.shl one).mono (by omega)
  have back : x * 2 ^ n / 2 ^ n = x := Nat.mul_div_cancel _ (Nat.two_pow_pos n)
  refine Ev.bind (f := fun k t => _) (Shl_n Na (by decide) (by omega)) ?_
  refine Ev.bind (f := fun k t => _) (Shl_n one (by decide) (by omega)) ?_
  refine Ev.bind (f := fun k t => _) (Ev.eq (Shr_n U (by decide) (by omega)) (congrArg dg back)) ?_
  refine Ev.bind (f := fun k t => _) (Trim_n Na (by decide)) ?_
  refine Ev.bind (f := fun k t => _) (digits01_n Na rfl (by decide)) ?_
  refine Ev.bind (f := fun k t => _) (Mul_n Na O (by decide) (by decide)) ?_
  refine Ev.bind (f := fun k t => _) (digits01_n U (show x * 2 ^ n = x * (1 * 2 ^ n) by rw [Nat.one_mul]) (by decide)) ?_
  refine Ev.bind (f := fun k t => _) (Bits_n U (by decide)) ?_
  refine Ev.bind (f := fun k t => _) (Bits_n Na (by decide)) ?_
  refine Ev.bind (f := fun k t => _) (Bits_n Na (by decide)) ?_
  by_cases h : x = 0
  · subst h
    refine Ev.ifp (by decide) ?_
    refine Ev.bind (f := fun k t => _) (Bits_n U (by decide)) ?_
    have e0 : ((bl (0 * 2 ^ n) : Int) == 0) = true := by rw [Nat.zero_mul]; decide
    rw [e0]
    exact There_j2 Na hn hi
  · have hb0 : bl x ≠ 0 := fun h1 => h (by have := bl_le.1 (Nat.le_of_eq h1); omega)
    refine Ev.ifn (by omega) ?_
    have e0 : ((bl (x * 2 ^ n) : Int) == wrap64 ((bl x : Int) + (n : Int))) = true := by
      rw [bl_shift h, w64 (by omega) (by omega), Int.natCast_add]
      exact beq_self_eq_true _
    rw [e0]
    exact There_j2 Na hn hi

theorem There_j0 {a : List Int} {x : Nat} {n : Nat} {i : Int} (Na : Nm a x 40) (hi : (Lit.int .i64 i).wf = true) :
    Ev (fun k => astrolabelaw01_NatThere.j0 k a n i true) true := by
  obtain ⟨m, _, hm⟩ := fold_neg hi
  refine Ev.step (fun k => ?_) (There_j1 n m Na)
  simp only [astrolabelaw01_NatThere.j0]
  by_cases h : i < 0
  · rw [if_pos h] at hm; rw [if_pos h, hm]
  · rw [if_neg h] at hm; rw [if_neg h, hm]

theorem NatThere : astrolabelaw01_NatThere.Pure := by
  intro l0 a1 a2 _ _ h0 h1 h2
  have Na := cut_nm h0 40 40 rfl
  obtain ⟨pa, qa, _⟩ := cut_ok l0 40 (by decide)
  obtain ⟨m, _, hm⟩ := fold_neg h1
  refine Ev.rounds ?_
  unfold astrolabelaw01_NatThere.f
  refine Ev.bind (f := fun k t => _) examples01 (Ev.ifp rfl (Ev.ifp pa (Ev.ifp qa ?_)))
  generalize l0.take (mn (l0.length : Int) 40).toNat = a at Na ⊢
  generalize val a = x at Na
  by_cases h : a1 < 0
  · rw [if_pos h] at hm
    refine Ev.ifp h ?_
    rw [hm]
    exact There_j0 Na h2
  · rw [if_neg h] at hm
    refine Ev.ifn h ?_
    rw [hm]
    exact There_j0 Na h2

end Go.Proofs.Ytmkffnhgcpdbaaa.Pure
