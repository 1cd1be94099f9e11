/- Quotient and rest; the greatest common divisor. -/
import Derived.Test.YtohkjfdcmiiehaaP2
import Derived.Test.YtohkjfdcmiiehaaP10
import Derived.Test.YtohkjfdcmiiehaaP11
import Derived.Test.YtohkjfdcmiiehaaQe
namespace Go.Proofs.Ytohkjfdcmiiehaa.Sp
open Go.RowKit Go.Proofs.Ytohkjfdcmiiehaa.P Go.Proofs.Ytohkjfdcmiiehaa.Num Go.Proofs.YtohkjfdcmiiehaaW.PrintWords Go.Proofs.YtohkjfdcmiiehaaW.PrintLast Go.Proofs.YtohkjfdcmiiehaaW.PrintMore

theorem dg_len_eq {v n : Nat} (h0 : 4294967296 ^ n ≤ v) (h1 : v < 4294967296 ^ (n + 1)) : (dg v).length = n + 1 := by
  have a := dg_length_le h1
  apply Nat.le_antisymm a
  apply Nat.succ_le_of_lt
  apply Nat.lt_of_not_le
  intro h
  have := lt_of_dg_length h
  exact Nat.lt_irrefl _ (Nat.lt_of_lt_of_le this h0)

theorem dg_len_mono {x y : Nat} (h : y ≤ x) : (dg y).length ≤ (dg x).length := by
  apply Nat.le_of_not_lt
  intro h1
  exact Nat.lt_irrefl _ (Nat.lt_of_lt_of_le (lt_of_len h1) h)

theorem copy_zeros {l : List Int} {L : Nat} (hl : l.length ≤ L) (hd : Dig l) : ∃ (c : Int) (U : List Int), own_copy.f (List.replicate L 0) l = some (c, U) ∧ U.length = L ∧ Dig U ∧ val U = val l := by
  refine ⟨_, _, rfl, ?_, ?_, ?_⟩
  · rw [List.length_append, List.length_take, List.length_drop, List.length_replicate]; omega
  · exact Dig_append.2 ⟨Dig_take hd _, Dig_drop (Dig_zeros L) _⟩
  · rw [List.length_replicate, Nat.min_eq_left hl, List.take_length, List.drop_replicate, val_append, val_zeros, Nat.mul_zero, Nat.add_zero]

theorem long_ix3 {N n : Nat} (hn : n ≤ N) (hN : N ≤ 1000000) : wrap64 ((N : Int) + 1) = ((N - n + 1 + n : Nat) : Int) ∧ wrap64 ((N : Int) - (n : Int)) = ((N - n + 1 : Nat) : Int) - 1 ∧ wrap64 (((N - n + 1 : Nat) : Int) - 1 + 1) = ((N - n + 1 : Nat) : Int) := by
  refine ⟨?_, ?_, ?_⟩
  · rw [w64 (by omega) (by omega)]; omega
  · rw [w64 (by omega) (by omega)]; omega
  · rw [w64 (by omega) (by omega)]; omega

theorem exp_split {N m0 : Nat} (h : m0 + 2 ≤ N) : 4294967296 ^ N = 4294967296 ^ (m0 + 1) * 4294967296 ^ (N - (m0 + 2) + 1) := by
  rw [← Nat.pow_add]
  congr 1
  omega

theorem long_sp {x y : Nat} (hy : 2 ≤ (dg y).length) (hxy : y ≤ x) (hx : (dg x).length ≤ 1000000) : Ev (fun k => quo_long.f k (dg x) (dg y)) (dg (x / y), dg (x % y), true) := by
  obtain ⟨m0, hm⟩ : ∃ m0, (dg y).length = m0 + 2 := ⟨(dg y).length - 2, by omega⟩
  obtain ⟨N, hN⟩ : ∃ N, (dg x).length = N := ⟨_, rfl⟩
  have hnN : m0 + 2 ≤ N := by rw [← hm, ← hN]; exact dg_len_mono hxy
  rw [hN] at hx
  have j1 : N - (m0 + 2) + 1 + (m0 + 2) ≤ 10000000 := by omega
  have j2 : N + 1 ≤ N - (m0 + 2) + 1 + (m0 + 2) := by omega
  have j3 : m0 + 2 ≤ 100000000 := by omega
  have j4 : N ≤ 100000000 := by omega
  have w0 : wrap64 (((m0 + 2 : Nat) : Int) - 1) = ((m0 + 1 : Nat) : Int) := by rw [w64 (by omega) (by omega)]; omega
  have i0 : ((m0 + 1 : Nat) : Int) < ((m0 + 2 : Nat) : Int) := by omega
  have i1 : N - (m0 + 2) + 1 + (m0 + 2) ≤ 70368744177664 := by omega
  have i2 : N - (m0 + 2) + 1 ≤ 70368744177664 := by omega
  obtain ⟨_, hd, hd0⟩ := bl_dg (v := y) (n := m0 + 1) hm
  have hxl : x < 4294967296 ^ N := lt_of_dg_length (Nat.le_of_eq hN)
  have hyl : y < 4294967296 ^ (m0 + 2) := lt_of_dg_length (Nat.le_of_eq hm)
  have hyg : 4294967296 ^ (m0 + 1) ≤ y := le_of_dg_length (by rw [hm]; exact Nat.le_refl _)
  have hy0 : 0 < y := Nat.lt_of_lt_of_le (pow_pos' _) hyg
  obtain ⟨n1, n2⟩ := norm_one hd0 hd
  have hk32 : 32 - bl (y / 4294967296 ^ (m0 + 1)) ≤ 32 := Nat.sub_le _ _
  have hdig : rd (dg y) ((m0 + 1 : Nat) : Int) = ((y / 4294967296 ^ (m0 + 1) : Nat) : Int) := by rw [rd_nat, dg_getD, Nat.mod_eq_of_lt hd]
  have hLZ := LZ_eq hd
  generalize 32 - bl (y / 4294967296 ^ (m0 + 1)) = k at n1 n2 hk32 hLZ
  obtain ⟨s1, s2⟩ := norm_num (pow_pos' (m0 + 1)) n1 n2
  have hp2 := Nat.two_pow_pos k
  have hlen' : (dg (y * 2 ^ k)).length = m0 + 2 := dg_len_eq (n := m0 + 1) (Nat.le_trans hyg (Nat.le_mul_of_pos_right _ hp2)) (by rw [Nat.pow_succ 4294967296 (m0 + 1)]; exact s2)
  have hxk : x * 2 ^ k < 4294967296 ^ (N + 1) := by
    rw [Nat.pow_succ]
    exact Nat.mul_lt_mul_of_lt_of_le hxl (Nat.le_trans (Nat.pow_le_pow_right (by decide) hk32) (by decide)) (by decide)
  have hXl : (dg (x * 2 ^ k)).length ≤ N - (m0 + 2) + 1 + (m0 + 2) := Nat.le_trans (dg_length_le hxk) j2
  obtain ⟨c, U, hc, hUl, hUd, hUv⟩ := copy_zeros hXl (Dig_dg _)
  rw [val_dg] at hUv
  obtain ⟨w1, w2, w3⟩ := long_ix3 hnN hx
  have hbd : Dig (dg (y * 2 ^ k)) := Dig_dg _
  have hbv : val (dg (y * 2 ^ k)) = y * 2 ^ k := val_dg _
  have hdiv : x * 2 ^ k / (y * 2 ^ k) = x / y := Nat.mul_div_mul_right x y hp2
  have hmod : x * 2 ^ k % (y * 2 ^ k) / 2 ^ k = x % y := by rw [Nat.mul_mod_mul_right, Nat.mul_div_cancel _ hp2]
  have hxq : x < y * 4294967296 ^ (N - (m0 + 2) + 1) := by
    rw [exp_split hnN] at hxl
    exact Nat.lt_of_lt_of_le hxl (Nat.mul_le_mul_right _ hyg)
  have hA : x * 2 ^ k / val (dg (y * 2 ^ k)) < 4294967296 ^ (N - (m0 + 2) + 1) := by
    rw [hbv, hdiv]; exact Nat.div_lt_of_lt_mul hxq
  have hUm : val U = x * 2 ^ k % (4294967296 ^ (N - (m0 + 2) + 1) * val (dg (y * 2 ^ k))) := by
    rw [hUv, hbv, Nat.mod_eq_of_lt]
    rw [← Nat.mul_assoc, Nat.mul_comm (4294967296 ^ _) y]
    exact Nat.mul_lt_mul_of_pos_right hxq hp2
  have hL := long_l0 hbd (n := m0 + 2) (m0 := m0) (mQ := N - (m0 + 2) + 1) (sh := k) (A := x * 2 ^ k) hlen' rfl (by rw [hbv]; exact s1) j1 (Nat.le_trans hk32 (by decide)) hA (N - (m0 + 2) + 1) U (List.replicate (N - (m0 + 2) + 1) 0) (Nat.le_refl _) hUl List.length_replicate hUd hUm (fun i h1 h2 => absurd h2 (Nat.not_lt.2 h1))
  rw [hbv, hdiv, hmod] at hL
  have hS1 : Ev (fun j => nat_Shl.f j (dg y) (k : Int)) (dg (y * 2 ^ k), true) := Ev.eq (Shl_sp (Dig_dg y) (by rw [hm]; exact j3)) (by rw [if_pos ⟨Int.natCast_nonneg k, Int.ofNat_le.2 (Nat.le_trans hk32 (by decide))⟩, val_dg, Int.toNat_natCast])
  have hS2 : Ev (fun j => nat_Shl.f j (dg x) (k : Int)) (dg (x * 2 ^ k), true) := Ev.eq (Shl_sp (Dig_dg x) (by rw [hN]; exact j4)) (by rw [if_pos ⟨Int.natCast_nonneg k, Int.ofNat_le.2 (Nat.le_trans hk32 (by decide))⟩, val_dg, Int.toNat_natCast])
  clear n1 n2 s1 s2 hxk hxq hA hUm hUv hxl hyl hyg hd hd0 hdiv hmod
  refine Ev.congr (f := ?F) (fun j => ?_) ?_
  rotate_left
  · unfold quo_long.f
    rw [hm, hN, w0, w1, if_pos (Int.natCast_nonneg _), if_pos i0, hdig, hLZ, Int.toNat_natCast]
  refine Ev.bind (f := fun j t => _) (Ev.now (k : Int)) (Ev.bind (f := fun j t => _) hS1 (Ev.ifp (Int.natCast_nonneg _) (Ev.ifp i1 (Ev.bind (f := fun j t => _) hS2 ?_))))
  rw [hc]
  refine Ev.bind (f := fun j t => _) (Ev.now (c, U)) ?_
  rw [show ((dg (y * 2 ^ k), true) : List Int × Bool).1.length = m0 + 2 from hlen', w2, w3, Int.toNat_natCast]
  exact Ev.ifp (Int.natCast_nonneg _) (Ev.ifp i2 hL)

theorem cmp_neg (x y : Nat) : cmp x y < 0 ↔ x < y := by
  unfold cmp
  by_cases h : x < y
  · rw [if_pos h]; exact ⟨fun _ => h, fun _ => by decide⟩
  · rw [if_neg h]
    by_cases h2 : x = y
    · rw [if_pos h2]; exact ⟨fun h3 => absurd h3 (by decide), fun h3 => absurd h3 h⟩
    · rw [if_neg h2]; exact ⟨fun h3 => absurd h3 (by decide), fun h3 => absurd h3 h⟩

theorem DivMod_n {a b : List Int} {x y n m : Nat} (ha : Nm a x n) (hb : Nm b y m) (hn : n ≤ 1000000) (hm : m ≤ 1000000) (hy : y ≠ 0) : Ev (fun k => quo_DivMod.f k a b) (dg (x / y), dg (x % y), true) := by
  have lx : (dg x).length ≤ 1000000 := Nat.le_trans ha.dg.len hn
  have ly : (dg y).length ≤ 1000000 := Nat.le_trans hb.dg.len hm
  have hl0 : ¬ ((dg y).length : Int) = 0 := fun h => hy (dg_length_zero.1 (by omega))
  refine Ev.bind (f := fun k t => _) (Trim_n hb (Nat.le_trans hm (by decide))) (Ev.bind (f := fun k t => _) (Trim_n ha (Nat.le_trans hn (by decide))) (Ev.ifn hl0 ?_))
  refine Ev.bind (f := fun k t => _) (Cmp_n ha.dg hb.dg (Nat.le_trans hn (by decide)) (Nat.le_trans hm (by decide))) ?_
  by_cases h : x < y
  · refine Ev.ifp ((cmp_neg x y).2 h) (Ev.eq (Ev.now _) ?_)
    rw [Nat.div_eq_of_lt h, Nat.mod_eq_of_lt h, dg_zero]
  · refine Ev.ifn (fun h1 => h ((cmp_neg x y).1 h1)) ?_
    by_cases h1 : (dg y).length = 1
    · have hyl : y < 4294967296 := lt_of_dg_length (n := y) (k := 1) (Nat.le_of_eq h1)
      have hrd : rd (dg y) 0 = (y : Int) := by
        have := rd_nat (dg y) 0
        rw [dg_one hy hyl] at this ⊢
        exact this
      have hS := short_sp (a := dg x) (Dig_dg x) (d := y) (by omega) hyl (Nat.le_trans lx (by decide))
      rw [val_dg] at hS
      refine Ev.ifp (by omega) (Ev.ifp (by omega) ?_)
      rw [hrd]
      exact Ev.bind (f := fun k t => _) hS (Ev.now _)
    · refine Ev.ifn (by omega) ?_
      exact Ev.bind (f := fun k t => _) (long_sp (by omega) (Nat.le_of_not_lt h) lx) (Ev.now _)

theorem DivMod_0 {a b : List Int} {x n m : Nat} (ha : Nm a x n) (hb : Nm b 0 m) (hn : n ≤ 1000000) (hm : m ≤ 1000000) : Ev (fun k => quo_DivMod.f k a b) ([], [], false) := by
  refine Ev.bind (f := fun k t => _) (Trim_n hb (Nat.le_trans hm (by decide))) (Ev.bind (f := fun k t => _) (Trim_n ha (Nat.le_trans hn (by decide))) ?_)
  exact Ev.ifp (by rw [dg_zero]; rfl) (Ev.now _)

theorem Gcd_l0 {n : Nat} (hn : n ≤ 1000000) : ∀ (y x : Nat), x < 4294967296 ^ n → y < 4294967296 ^ n → Ev (fun k => quo_Gcd.l0 k (dg x) (dg y)) (dg (Nat.gcd x y)) := by
  intro y
  induction y using Nat.strongRecOn with
  | _ y ih =>
  intro x hx hy
  by_cases h : y = 0
  · subst h
    refine Ev.step (f := fun _ => some (dg x)) (fun k => ?_) (Ev.eq (Ev.now _) (by rw [Nat.gcd_zero_right]))
    simp only [quo_Gcd.l0]
    rw [dg_zero, if_neg (by decide)]
  · have hl : ((dg y).length : Int) > 0 := by
      have : (dg y).length ≠ 0 := fun h1 => h (dg_length_zero.1 h1)
      clear hx hy
      omega
    have hlt : x % y < y := Nat.mod_lt _ (Nat.pos_of_ne_zero h)
    have hI := ih (x % y) hlt y hy (Nat.lt_trans hlt hy)
    rw [show Nat.gcd y (x % y) = Nat.gcd x y by rw [Nat.gcd_comm x y, Nat.gcd_rec y x, Nat.gcd_comm]] at hI
    have hD := DivMod_n (Nm.of hx) (Nm.of hy) hn hn h
    clear hx hy hlt
    refine Ev.step (f := ?F) (fun k => ?_) ?_
    rotate_left
    · simp only [quo_Gcd.l0]
      rw [if_pos hl]
    exact Ev.bind (f := fun k t => _) hD hI

theorem Gcd_n {a b : List Int} {x y n : Nat} (ha : Nm a x n) (hb : Nm b y n) (hn : n ≤ 1000000) : Ev (fun k => quo_Gcd.f k a b) (dg (Nat.gcd x y)) :=
  Ev.bind (f := fun k t => _) (Trim_n ha (Nat.le_trans hn (by decide))) (Ev.bind (f := fun k t => _) (Trim_n hb (Nat.le_trans hn (by decide))) (Gcd_l0 hn y x ha.lt hb.lt))

end Go.Proofs.Ytohkjfdcmiiehaa.Sp
