/- A number and itself are it moved up by one; so often a number as a small one says is their product, and its rest below 2^k is what is left when it is moved down and up again: the pure statement of NatDoubles. -/
import Derived.Test.YtmkffnhgcpdbaaaP16
import Derived.Test.YtmkffnhgcpdbaaaSf
namespace Go.Proofs.Ytmkffnhgcpdbaaa.Pure
open Go.RowKit Go.Proofs.Ytmkffnhgcpdbaaa.P Go.Proofs.Ytmkffnhgcpdbaaa.Num Go.Proofs.Ytmkffnhgcpdbaaa.Sp Go.Proofs.YtmkffnhgcpdbaaaW.PrintWords Go.Proofs.YtmkffnhgcpdbaaaW.PrintLast Go.Proofs.YtmkffnhgcpdbaaaW.PrintMore

theorem fold_neg {n : Int} (h : (Lit.int .i64 n).wf = true) : ∃ m : Nat, m ≤ 9223372036854775807 ∧ (if n < 0 then wrap64 (-(wrap64 (n + 1))) else n) = (m : Int) := by
  simp only [Lit.wf, IntKind.min, IntKind.max, IntKind.signed, IntKind.bits, Bool.and_eq_true] at h
  simp at h
  by_cases h0 : n < 0
  · refine ⟨(-(n + 1)).toNat, by omega, ?_⟩
    rw [if_pos h0, w64 (x := n + 1) (by omega) (by omega), w64 (by omega) (by omega)]
    omega
  · exact ⟨n.toNat, by omega, by rw [if_neg h0]; omega⟩

theorem Doubles_j0 {a : List Int} {x : Nat} (n : Nat) (Na : Nm a x 40) : Ev (fun k => astrolabelaw01_NatDoubles.j0 k a n true) true := by
  have en : Int.tmod (n : Int) 601 = ((n % 601 : Nat) : Int) := rfl
  have hn : n % 601 ≤ 600 := by omega
  refine Ev.step (f := ?F) (fun k => ?_) ?_
  rotate_left
  · simp only [astrolabelaw01_NatDoubles.j0]
    rw [en]
  generalize n % 601 = n at hn
  have U : Nm (dg (x * 2 ^ 1)) (x * 2 ^ 1) 41 := (Nm.shl Na).mono (by decide)
  have D : Nm (dg (x / 2 ^ n)) (x / 2 ^ n) 40 := Nm.le Na (Nat.div_le_self _ _)
  have hle : x / 2 ^ n * 2 ^ n ≤ x := Nat.div_mul_le_self x (2 ^ n)
  have K : Nm (dg (x / 2 ^ n * 2 ^ n)) (x / 2 ^ n * 2 ^ n) 40 := Nm.le Na hle
  have hrest : x - x / 2 ^ n * 2 ^ n = x % 2 ^ n := by
    have := Nat.mod_add_div x (2 ^ n)
    rw [Nat.mul_comm] at this
    omega
  have R : Nm (dg (x % 2 ^ n)) (x % 2 ^ n) 40 := Nm.le Na (Nat.mod_le _ _)
  have T3 : Nm (dg ((3 : Int).toNat)) 3 1 := Nm.of (by decide)
  refine Ev.bind (f := fun k t => _) (Shl_n Na (by decide) (show 1 ≤ 100000 by decide)) ?_
  refine Ev.bind (f := fun k t => _) (Add_n Na Na (by decide) (by decide)) ?_
  refine Ev.bind (f := fun k t => _) (digits01_n (Nm.add (k := 41) Na Na (by decide) (by decide)) (show x + x = x * 2 ^ 1 by omega) (by decide)) ?_
  refine Ev.bind (f := fun k t => _) (Shr_n Na (by decide) (by omega)) ?_
  refine Ev.bind (f := fun k t => _) (Shl_n D (by decide) (by omega)) ?_
  refine Ev.bind (f := fun k t => _) (Ev.eq (Sub_y Na K (by decide) (by decide) hle) (by rw [hrest])) ?_
  refine Ev.bind (f := fun k t => _) (From_sp (n := 3) (by decide) (by decide)) ?_
  refine Ev.bind (f := fun k t => _) (Mul_n Na T3 (by decide) (by decide)) ?_
  refine Ev.bind (f := fun k t => _) (Add_n U Na (by decide) (by decide)) ?_
  refine Ev.bind (f := fun k t => _) (digits01_n (Nm.mul Na T3) (show x * 3 = x * 2 ^ 1 + x by omega) (by decide)) ?_
  refine Ev.ifp (by trivial) (Ev.ifp rfl (Ev.ifp rfl (Ev.ifp rfl (Ev.ifp rfl ?_))))
  refine Ev.bind (f := fun k t => _) (Bits_n R (by decide)) ?_
  have hb : bl (x % 2 ^ n) ≤ n := bl_le.2 (Nat.mod_lt _ (Nat.two_pow_pos n))
  exact Ev.ifp (Int.ofNat_le.2 hb) (Ev.now _)

theorem NatDoubles : astrolabelaw01_NatDoubles.Pure := by
  intro l0 a1 _ _ h0 h1
  have Na := cut_nm h0 40 40 rfl
  obtain ⟨pa, qa, _⟩ := cut_ok l0 40 (by decide)
  obtain ⟨m, _, hm⟩ := fold_neg h1
  refine Ev.rounds ?_
  unfold astrolabelaw01_NatDoubles.f
  refine Ev.bind (f := fun k t => _) examples01 (Ev.ifp rfl (Ev.ifp pa (Ev.ifp qa ?_)))
  generalize l0.take (mn (l0.length : Int) 40).toNat = a at Na ⊢
  generalize val a = x at Na
  by_cases h : a1 < 0
  · rw [if_pos h] at hm
    refine Ev.ifp h ?_
    rw [hm]
    exact Doubles_j0 m Na
  · rw [if_neg h] at hm
    refine Ev.ifn h ?_
    rw [hm]
    exact Doubles_j0 m Na

end Go.Proofs.Ytmkffnhgcpdbaaa.Pure
