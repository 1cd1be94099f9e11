/- Karatsuba's products are products. -/
import Derived.Test.YtpodpfppbkjbcaaP1
import Derived.Test.YtpodpfppbkjbcaaP2
import Derived.Test.YtpodpfppbkjbcaaP5
import Derived.Test.YtpodpfppbkjbcaaP6
import Derived.Test.YtpodpfppbkjbcaaP7
import Derived.Test.YtpodpfppbkjbcaaKa
namespace Go.Proofs.Ytpodpfppbkjbcaa.Sp
open Go.RowKit Go.Proofs.Ytpodpfppbkjbcaa.P Go.Proofs.Ytpodpfppbkjbcaa.Num Go.Proofs.YtpodpfppbkjbcaaW.PrintWords Go.Proofs.YtpodpfppbkjbcaaW.PrintLast Go.Proofs.YtpodpfppbkjbcaaW.PrintMore

theorem mx_nat' (a b : Nat) : mx (a : Int) (b : Int) = ((max a b : Nat) : Int) := by
  unfold mx
  split <;> omega

theorem kara_mid (A0 A1 B0 B1 : Nat) : (A0 + A1) * (B0 + B1) - A0 * B0 - A1 * B1 = A0 * B1 + A1 * B0 ∧ A0 * B0 ≤ (A0 + A1) * (B0 + B1) ∧ A1 * B1 ≤ (A0 + A1) * (B0 + B1) - A0 * B0 := by
  have : (A0 + A1) * (B0 + B1) = A0 * B0 + A1 * B0 + (A0 * B1 + A1 * B1) := by rw [Nat.mul_add, Nat.add_mul, Nat.add_mul]
  omega

theorem kara_sum (A0 A1 B0 B1 p : Nat) : A0 * B0 + p * (A0 * B1 + A1 * B0) + p * p * (A1 * B1) = (A0 + p * A1) * (B0 + p * B1) := by grind

theorem kara_fit {A0 A1 B0 B1 X P Q W : Nat} (hQ : Q = P * P) (hX : (A0 + P * A1) * (B0 + P * B1) = X) (hw : X < W) :
    A0 * B0 + P * (A0 * B1 + A1 * B0) + Q * (A1 * B1) = X ∧ A0 * B0 < W ∧ A0 * B0 + P * (A0 * B1 + A1 * B0) < W := by
  have h := kara_sum A0 A1 B0 B1 P
  rw [hX, ← hQ] at h
  generalize A0 * B0 = x at h ⊢
  generalize P * (A0 * B1 + A1 * B0) = y at h ⊢
  generalize Q * (A1 * B1) = z at h ⊢
  omega

/-- The three sums laid over one another. -/
theorem kara_three {x y z X h h2 L : Nat} {lx ly lz : List Int} (hx : Nm lx x 10000000) (hy : Nm ly y 10000000) (hz : Nm lz z 10000000) (hL : L ≤ 100000000) (hh : h ≤ L) (hh2 : h2 ≤ L)
    (f0 : x + 4294967296 ^ h * y + 4294967296 ^ h2 * z = X) (f1 : x < 4294967296 ^ L) (f2 : x + 4294967296 ^ h * y < 4294967296 ^ L) (f3 : X < 4294967296 ^ L) :
    ∃ R1 R2 R3, Ev (fun k => kara_add.f k (List.replicate L 0) lx 0) R1 ∧ Ev (fun k => kara_add.f k R1 ly (h : Int)) R2 ∧ Ev (fun k => kara_add.f k R2 lz (h2 : Int)) R3 ∧ R3.length = L ∧ Dig R3 ∧ val R3 = X := by
  have z0 : val (List.replicate L (0 : Int)) = 0 := val_zeros _
  have e0 : val (List.replicate L (0 : Int)) + 4294967296 ^ 0 * val lx = x := by rw [z0, hx.val, Nat.pow_zero, Nat.one_mul, Nat.zero_add]
  obtain ⟨R1, k1, l1, d1, v1⟩ := kadd_sp (s := 0) (L := L) hx.dig (Dig_zeros L) (Nat.le_trans hx.len (by decide)) List.length_replicate hL (Nat.zero_le _) (by rw [e0]; exact f1)
  rw [e0] at v1
  obtain ⟨R2, k2, l2, d2, v2⟩ := kadd_sp (s := h) (L := L) hy.dig d1 (Nat.le_trans hy.len (by decide)) l1 hL hh (by rw [v1, hy.val]; exact f2)
  rw [v1, hy.val] at v2
  obtain ⟨R3, k3, l3, d3, v3⟩ := kadd_sp (s := h2) (L := L) hz.dig d2 (Nat.le_trans hz.len (by decide)) l2 hL hh2 (by rw [v2, hz.val, f0]; exact f3)
  rw [v2, hz.val, f0] at v3
  exact ⟨R1, R2, R3, k1, k2, k3, l3, d3, v3⟩

theorem kara_half {n : Nat} (hn : n ≤ 1000000) : wrap64 ((n : Int) + 1) = ((n + 1 : Nat) : Int) ∧ wrap64 (Int.tdiv ((n + 1 : Nat) : Int) 2) = (((n + 1) / 2 : Nat) : Int) := by
  have : Int.tdiv ((n + 1 : Nat) : Int) 2 = (((n + 1) / 2 : Nat) : Int) := rfl
  rw [this]
  constructor
  · rw [w64] <;> omega
  · rw [w64] <;> omega

theorem kara_nums {n N : Nat} (h8 : 8 ≤ n) (hN : n ≤ N) (hM : n ≤ 1000000) : ∃ h m h2 L : Nat,
    wrap64 ((n : Int) + 1) = ((n + 1 : Nat) : Int) ∧ wrap64 (Int.tdiv ((n + 1 : Nat) : Int) 2) = (h : Int) ∧ wrap64 (2 * (h : Int)) = (h2 : Int) ∧ wrap64 (wrap64 (2 * (n : Int)) + 2) = (L : Int) ∧
    m ≤ h ∧ h2 = h + h ∧ h < N ∧ h + 1 < N ∧ h ≤ 1000000 ∧ h + 1 ≤ 1000000 ∧ h + 1 + (h + 1) ≤ 10000000 ∧ h + h ≤ 10000000 ∧ L ≤ 100000000 ∧ L ≤ 1000000000 ∧ h ≤ L ∧ h2 ≤ L ∧ n + n ≤ L ∧ h ≤ 100000000 ∧ L ≤ 70368744177664 ∧ h + m = n ∧ h + 1 + (h + 1) ≤ 100000000 ∧ h + h ≤ 100000000 := by
  obtain ⟨e1, e2⟩ := kara_half hM
  refine ⟨(n + 1) / 2, n - (n + 1) / 2, (n + 1) / 2 + (n + 1) / 2, 2 * n + 2, e1, e2, ?_, ?_, by omega, rfl, by omega, by omega, by omega, by omega, by omega, by omega, by omega, by omega, by omega, by omega, by omega, by omega, by omega, by omega, by omega, by omega⟩
  · clear e1 e2
    rw [w64] <;> omega
  · clear e1 e2
    rw [w64 (x := 2 * (n : Int)) (by omega) (by omega), w64] <;> omega

theorem kmul : ∀ (N : Nat) (a b : List Int), Dig a → Dig b → a.length ≤ N → b.length ≤ N → N ≤ 1000000 → Ev (fun k => kara_Mul_1.f k a b) (dg (val a * val b)) := by
  intro N
  induction N using Nat.strongRecOn with
  | _ N ih =>
  intro a b ha hb hla hlb hN
  have emn := mn_nat a.length b.length
  by_cases hs : min a.length b.length < 8
  · refine Ev.step (f := fun k => (nat_Mul.f k a b).bind fun t => some t) (fun k => ?_) (Ev.bind (f := fun _ t => some t) (Mul_sp ha hb (by omega) (by omega)) (Ev.now _))
    simp only [kara_Mul_1.f]
    rw [emn, if_pos (by omega)]
  · obtain ⟨n, hn⟩ : ∃ n, n = max a.length b.length := ⟨_, rfl⟩
    have emx : mx (a.length : Int) (b.length : Int) = (n : Int) := by rw [mx_nat', hn]
    have hlan : a.length ≤ n := by omega
    have hlbn : b.length ≤ n := by omega
    have hnN : n ≤ N := by omega
    have hn8 : 8 ≤ n := by omega
    have i15 : ¬ ((min a.length b.length : Nat) : Int) < 8 := by omega
    have i1 : a.length ≤ 100000000 := by omega
    have i2 : b.length ≤ 100000000 := by omega
    clear hs hn hla hlb
    have hnM : n ≤ 1000000 := Nat.le_trans hnN hN
    obtain ⟨h, m, h2, L, ew, eh, e2h, e2n, hhn, hh2, i3, i4, i5, i6, i7, i8, i9, i10, i11, i12, i13, i14, i16, i17, i18, i19⟩ := kara_nums hn8 hnN hnM
    clear hn8 hnN hN hnM
    have ppow : 4294967296 ^ h2 = 4294967296 ^ h * 4294967296 ^ h := by rw [hh2, Nat.pow_add]
    have vA : val a % 4294967296 ^ h + 4294967296 ^ h * (val a / 4294967296 ^ h) = val a := Nat.mod_add_div _ _
    have vB : val b % 4294967296 ^ h + 4294967296 ^ h * (val b / 4294967296 ^ h) = val b := Nat.mod_add_div _ _
    have bA : val a < 4294967296 ^ n := Nat.lt_of_lt_of_le (val_lt ha) (pow_le hlan)
    have bB : val b < 4294967296 ^ n := Nat.lt_of_lt_of_le (val_lt hb) (pow_le hlbn)
    have esplit : 4294967296 ^ h * 4294967296 ^ m = 4294967296 ^ n := by rw [← Nat.pow_add, i17]
    have NA0 : Nm (dg (val a % 4294967296 ^ h)) (val a % 4294967296 ^ h) h := Nm.of (Nat.mod_lt _ (pow_pos' h))
    have NB0 : Nm (dg (val b % 4294967296 ^ h)) (val b % 4294967296 ^ h) h := Nm.of (Nat.mod_lt _ (pow_pos' h))
    have NA1 : Nm (dg (val a / 4294967296 ^ h)) (val a / 4294967296 ^ h) h := (Nm.of (n := m) (Nat.div_lt_of_lt_mul (by rw [esplit]; exact bA))).mono hhn
    have NB1 : Nm (dg (val b / 4294967296 ^ h)) (val b / 4294967296 ^ h) h := (Nm.of (n := m) (Nat.div_lt_of_lt_mul (by rw [esplit]; exact bB))).mono hhn
    have pa0 := part_lo ha i1 h
    have pb0 := part_lo hb i2 h
    have pa1 := part_hi (h := h) ha i1 hlan
    have pb1 := part_hi (h := h) hb i2 hlbn
    have btot : val a * val b < 4294967296 ^ L := Nat.lt_of_lt_of_le (mul_lt bA bB) (pow_le i13)
    have etot : (val a % 4294967296 ^ h + 4294967296 ^ h * (val a / 4294967296 ^ h)) * (val b % 4294967296 ^ h + 4294967296 ^ h * (val b / 4294967296 ^ h)) = val a * val b := by rw [vA, vB]
    clear vA vB bA bB esplit
    generalize val a % 4294967296 ^ h = A0 at NA0 pa0 etot
    generalize val b % 4294967296 ^ h = B0 at NB0 pb0 etot
    generalize val a / 4294967296 ^ h = A1 at NA1 pa1 etot
    generalize val b / 4294967296 ^ h = B1 at NB1 pb1 etot
    generalize val a * val b = X at btot etot ⊢
    obtain ⟨f0, f1, f2⟩ := kara_fit ppow etot btot
    clear etot ppow
    have SA : Nm (dg (A0 + A1)) (A0 + A1) (h + 1) := Nm.add NA0 NA1 (Nat.le_refl _) (Nat.le_refl _)
    have SB : Nm (dg (B0 + B1)) (B0 + B1) (h + 1) := Nm.add NB0 NB1 (Nat.le_refl _) (Nat.le_refl _)
    have PL : Nm (dg (A0 * B0)) (A0 * B0) (h + h) := Nm.mul NA0 NB0
    have PH : Nm (dg (A1 * B1)) (A1 * B1) (h + h) := Nm.mul NA1 NB1
    have PM : Nm (dg ((A0 + A1) * (B0 + B1))) ((A0 + A1) * (B0 + B1)) (h + 1 + (h + 1)) := Nm.mul SA SB
    have PM1 : Nm (dg ((A0 + A1) * (B0 + B1) - A0 * B0)) ((A0 + A1) * (B0 + B1) - A0 * B0) (h + 1 + (h + 1)) := Nm.le PM (Nat.sub_le _ _)
    obtain ⟨m1, m2, m3⟩ := kara_mid A0 A1 B0 B1
    have PM2 : Nm (dg (A0 * B1 + A1 * B0)) (A0 * B1 + A1 * B0) (h + 1 + (h + 1)) := by
      rw [← m1]; exact Nm.le PM1 (Nat.sub_le _ _)
    have kL : Ev (fun k => kara_Mul_1.f k (dg A0) (dg B0)) (dg (A0 * B0)) := Ev.eq (ih h i3 _ _ NA0.dig NB0.dig NA0.len NB0.len i5) (by rw [val_dg, val_dg])
    have kH : Ev (fun k => kara_Mul_1.f k (dg A1) (dg B1)) (dg (A1 * B1)) := Ev.eq (ih h i3 _ _ NA1.dig NB1.dig NA1.len NB1.len i5) (by rw [val_dg, val_dg])
    have kM : Ev (fun k => kara_Mul_1.f k (dg (A0 + A1)) (dg (B0 + B1))) (dg ((A0 + A1) * (B0 + B1))) := Ev.eq (ih (h + 1) i4 _ _ SA.dig SB.dig SA.len SB.len i6) (by rw [val_dg, val_dg])
    have s1 := Sub_y PM PL i18 i19 m2
    have s2 : Ev (fun k => nat_Sub.f k (dg ((A0 + A1) * (B0 + B1) - A0 * B0)) (dg (A1 * B1))) (dg (A0 * B1 + A1 * B0), true) := Ev.eq (Sub_y PM1 PH i18 i19 m3) (by rw [m1])
    obtain ⟨R1, R2, R3, k1, k2, k3, l3, d3, v3⟩ := kara_three (PL.mono i8) (PM2.mono i7) (PH.mono i8) i9 i11 i12 f0 f1 f2 btot
    have kT : Ev (fun k => nat_Trim.f k R3) (dg X) := Ev.eq (Trim_sp (by rw [l3]; exact i10) d3) (by rw [v3])
    have rep : List.replicate ((L : Nat) : Int).toNat (0 : Int) = List.replicate L 0 := by rw [Int.toNat_natCast]
    clear f0 f1 f2 btot m1 m2 m3
    refine Ev.step (f := ?F) (fun k => ?_) ?_
    rotate_left
    · simp only [kara_Mul_1.f]
      rw [emn, if_neg i15, emx, ew, eh, e2h, e2n]
    refine Ev.bind (f := fun k t => _) pa0 (Ev.bind (f := fun k t => _) pb0 (Ev.bind (f := fun k t => _) kL ?_))
    refine Ev.bind (f := fun k t => _) pa1 (Ev.bind (f := fun k t => _) pb1 (Ev.bind (f := fun k t => _) kH ?_))
    refine Ev.bind (f := fun k t => _) pa0 (Ev.bind (f := fun k t => _) pa1 (Ev.bind (f := fun k t => _) (Add_n NA0 NA1 i14 i14) ?_))
    refine Ev.bind (f := fun k t => _) pb0 (Ev.bind (f := fun k t => _) pb1 (Ev.bind (f := fun k t => _) (Add_n NB0 NB1 i14 i14) ?_))
    refine Ev.bind (f := fun k t => _) kM (Ev.bind (f := fun k t => _) s1 (Ev.bind (f := fun k t => _) s2 ?_))
    refine Ev.ifp (Int.natCast_nonneg _) (Ev.ifp (by rw [Int.toNat_natCast]; exact i16) ?_)
    rw [rep]
    exact Ev.bind (f := fun k t => _) k1 (Ev.bind (f := fun k t => _) k2 (Ev.bind (f := fun k t => _) k3 (Ev.bind (f := fun _ t => some t) kT (Ev.now _))))

theorem kMul_sp {a b : List Int} (ha : Dig a) (hb : Dig b) (hla : a.length ≤ 1000000) (hlb : b.length ≤ 1000000) : Ev (fun k => kara_Mul.f k a b) (dg (val a * val b)) := by
  have la := dg_len ha
  have lb := dg_len hb
  refine Ev.bind (f := fun k t => _) (Trim_sp (by omega) ha) (Ev.bind (f := fun k t => _) (Trim_sp (by omega) hb) ?_)
  refine Ev.bind (f := fun _ t => some t) (Ev.eq (kmul 1000000 _ _ (Dig_dg _) (Dig_dg _) (by omega) (by omega) (Nat.le_refl _)) (by rw [val_dg, val_dg])) (Ev.now _)

theorem kMul_n {a b : List Int} {x y n m : Nat} (ha : Nm a x n) (hb : Nm b y m) (hn : n ≤ 1000000) (hm : m ≤ 1000000) : Ev (fun k => kara_Mul.f k a b) (dg (x * y)) :=
  Ev.eq (kMul_sp ha.dig hb.dig (Nat.le_trans ha.len hn) (Nat.le_trans hb.len hm)) (by rw [ha.val, hb.val])
theorem kSquare_n {a : List Int} {x n : Nat} (ha : Nm a x n) (hn : n ≤ 1000000) : Ev (fun k => kara_Square.f k a) (dg (x * x)) :=
  Ev.bind (f := fun _ t => some t) (kMul_n ha ha hn hn) (Ev.now _)

end Go.Proofs.Ytpodpfppbkjbcaa.Sp
