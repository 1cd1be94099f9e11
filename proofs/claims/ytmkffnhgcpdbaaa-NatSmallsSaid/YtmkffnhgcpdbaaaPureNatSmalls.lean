/- A small number is read as it was; its bits are those of its digits; sums and products of two of 32 bits are those of the machine: the pure statement of NatSmalls. -/
import Derived.Test.YtmkffnhgcpdbaaaP9
import Derived.Test.YtmkffnhgcpdbaaaSf
namespace Go.Proofs.Ytmkffnhgcpdbaaa.Pure
open Go.RowKit Go.Proofs.Ytmkffnhgcpdbaaa.P Go.Proofs.Ytmkffnhgcpdbaaa.Num Go.Proofs.Ytmkffnhgcpdbaaa.Sp Go.Proofs.YtmkffnhgcpdbaaaW.PrintWords Go.Proofs.YtmkffnhgcpdbaaaW.PrintLast Go.Proofs.YtmkffnhgcpdbaaaW.PrintMore

theorem bl_half {n : Nat} (h : n ≠ 0) : bl n = bl (n / 2) + 1 := by
  unfold bl
  rw [if_neg h]
  by_cases h1 : n / 2 = 0
  · rw [if_pos h1]
    have : n = 1 := by omega
    subst this; decide
  · rw [if_neg h1, Nat.log2_def n, if_pos (by omega)]

theorem smalls_loop (N : Nat) (hN : N < 18446744073709551616) (a1 a2 s p : Int) (hs : s = IntKind.u64.wrap (IntKind.u64.wrap a1 + IntKind.u64.wrap a2)) (hp : p = IntKind.u64.wrap (IntKind.u64.wrap a1 * IntKind.u64.wrap a2)) :
    ∀ (m n c : Nat), n < 2 ^ m → m ≤ 64 → c + bl n = bl N → Ev (fun k => astrolabelaw01_NatSmalls.l0 k N a1 a2 true N true s true p true c n) true := by
  have hb : bl N ≤ 64 := bl_le.2 hN
  have last : ∀ c : Nat, c = bl N → Ev (fun k => astrolabelaw01_NatSmalls.l0 k N a1 a2 true N true s true p true c ((0 : Nat) : Int)) true := by
    intro c hc
    refine Ev.step (f := ?F) (fun k => ?_) ?_
    rotate_left
    · simp only [astrolabelaw01_NatSmalls.l0]
      rw [if_neg (by decide), if_pos trivial, if_pos trivial, if_pos trivial, if_pos hs, if_pos trivial, if_pos hp, if_pos trivial]
    · refine Ev.bind (f := fun k t => _) (From_sp (n := (N : Int)) (by omega) (by omega)) ?_
      rw [Int.toNat_natCast]
      refine Ev.bind (f := fun k t => _) (Bits_n (Nm.of (x := N) (n := 2) (by omega)) (by decide)) ?_
      exact Ev.eq (Ev.now _) (by rw [hc]; exact beq_self_eq_true _)
  intro m
  induction m with
  | zero =>
    intro n c hn _ hc
    have : n = 0 := by omega
    subst this
    exact last c (by simpa [bl] using hc)
  | succ m ih =>
    intro n c hn hm hc
    by_cases h0 : n = 0
    · subst h0
      exact last c (by simpa [bl] using hc)
    · have hh := bl_half h0
      have hlt : n / 2 < 2 ^ m := by rw [Nat.pow_succ] at hn; omega
      have h64 : n < 18446744073709551616 := Nat.lt_of_lt_of_le hn (Nat.pow_le_pow_right (by decide) hm : 2 ^ (m + 1) ≤ 2 ^ 64)
      refine Ev.step (fun k => ?_) (ih (n / 2) (c + 1) hlt (by omega) (by omega))
      simp only [astrolabelaw01_NatSmalls.l0]
      have e1 : wrap64 ((c : Int) + 1) = ((c + 1 : Nat) : Int) := by rw [w64] <;> omega
      have e2 : IntKind.u64.wrap (Int.tdiv (n : Int) 2) = ((n / 2 : Nat) : Int) := by
        have : Int.tdiv (n : Int) 2 = ((n / 2 : Nat) : Int) := rfl
        rw [this, u64] <;> omega
      rw [if_pos (by omega), e1, e2]

theorem NatSmalls : astrolabelaw01_NatSmalls.Pure := by
  intro a0 a1 a2 h0 h1 h2
  have b1 : 0 ≤ a1 ∧ a1 < 4294967296 := Dig_wf (l := [a1]) (by intro x hx; simp at hx; subst hx; exact h1) a1 (by simp)
  have b2 : 0 ≤ a2 ∧ a2 < 4294967296 := Dig_wf (l := [a2]) (by intro x hx; simp at hx; subst hx; exact h2) a2 (by simp)
  have b0 : 0 ≤ a0 ∧ a0 < 18446744073709551616 := by
    simp only [Lit.wf, IntKind.min, IntKind.max, IntKind.signed, IntKind.bits, Bool.and_eq_true] at h0
    simp at h0
    omega
  obtain ⟨N, rfl⟩ := Int.eq_ofNat_of_zero_le b0.1
  obtain ⟨x, rfl⟩ := Int.eq_ofNat_of_zero_le b1.1
  obtain ⟨y, rfl⟩ := Int.eq_ofNat_of_zero_le b2.1
  have hm := mul_le b1 b2
  have exy : ((x * y : Nat) : Int) = (x : Int) * (y : Int) := Int.natCast_mul x y
  have hxy : x * y < 18446744073709551616 := by omega
  have hN : N < 18446744073709551616 := by omega
  refine Ev.rounds ?_
  unfold astrolabelaw01_NatSmalls.f
  refine Ev.bind (f := fun k t => _) examples01 (Ev.ifp rfl ?_)
  have NF : Nm (dg N) N 2 := Nm.of (by omega)
  have NX := nm1 b1
  have NY := nm1 b2
  rw [Int.toNat_natCast] at NX NY
  refine Ev.bind (f := fun k t => _) (Ev.eq (From_sp b0.1 b0.2) (by rw [Int.toNat_natCast])) ?_
  refine Ev.bind (f := fun k t => _) (Ev.eq (Small_n NF (by decide)) (if_pos hN)) ?_
  refine Ev.bind (f := fun k t => _) (Add_n NX NY (by decide) (by decide)) ?_
  refine Ev.bind (f := fun k t => _) (Ev.eq (Small_n (Nm.add (k := 2) NX NY (by decide) (by decide)) (by decide)) (if_pos (by omega))) ?_
  refine Ev.bind (f := fun k t => _) (Mul_n NX NY (by decide) (by decide)) ?_
  refine Ev.bind (f := fun k t => _) (Ev.eq (Small_n (Nm.mul NX NY) (by decide)) (if_pos hxy)) ?_
  refine smalls_loop N hN x y ((x + y : Nat) : Int) ((x * y : Nat) : Int) ?_ ?_ 64 N 0 hN (Nat.le_refl _) (Nat.zero_add _)
  · rw [dig64 b1, dig64 b2, u64 (by omega) (by omega), Int.natCast_add]
  · rw [dig64 b1, dig64 b2, u64 (by omega) (by omega), exy]

end Go.Proofs.Ytmkffnhgcpdbaaa.Pure
