/- The plain law of chapter 1's sums, products and comparisons. -/
import Derived.Test.YtohkjfdcmiiehaaP1
import Derived.Test.YtohkjfdcmiiehaaP3
import Derived.Test.YtohkjfdcmiiehaaP4
import Derived.Test.YtohkjfdcmiiehaaSa
namespace Go.Proofs.Ytohkjfdcmiiehaa.Sp
open Go.RowKit Go.Proofs.Ytohkjfdcmiiehaa.P Go.Proofs.Ytohkjfdcmiiehaa.Num Go.Proofs.YtohkjfdcmiiehaaW.PrintWords Go.Proofs.YtohkjfdcmiiehaaW.PrintLast Go.Proofs.YtohkjfdcmiiehaaW.PrintMore

theorem Add32_eq {x y c : Int} (hx : 0 ≤ x ∧ x < 4294967296) (hy : 0 ≤ y ∧ y < 4294967296) (hc : 0 ≤ c ∧ c ≤ 1) :
    bits_Add32.f x y c = some ((x + y + c) % 4294967296, (x + y + c) / 4294967296) := by
  unfold bits_Add32.f
  rw [u64 (x := x) (by omega) (by omega), u64 (x := y) (by omega) (by omega), u64 (x := c) (by omega) (by omega), u64 (x := x + y) (by omega) (by omega), u64 (x := x + y + c) (by omega) (by omega), Int.emod_eq_of_lt (a := (x + y + c) / 4294967296) (by omega) (by omega)]

theorem Add_loop (a b : List Int) (ha : Dig a) (hb : Dig b) (hl : b.length ≤ a.length) (hn : a.length ≤ 100000000) :
    ∀ (d i : Nat) (out : List Int) (c : Int), a.length - i = d → i ≤ a.length → out.length = a.length + 1 → Dig out → 0 ≤ c ∧ c ≤ 1 →
      val (out.take i) + 4294967296 ^ i * c.toNat = val (a.take i) + val (b.take i) →
      Ev (fun k => nat_Add.l0 k a b out c a.length i) (dg (val a + val b)) := by
  intro d
  induction d with
  | zero =>
    intro i out c hd hi ho hdo hc hv
    have e : i = a.length := by omega
    subst e
    have hv' : val (out.set a.length c) = val a + val b := by
      have h1 := val_take_set out a.length c (by omega)
      rw [take_ge_val _ (by simp; omega)] at h1
      rw [h1, hv, take_all_val, take_ge_val _ hl]
    refine Ev.step (f := fun k => (nat_trim.f k (out.set a.length c)).bind fun t => some t) (fun k => ?_) (Ev.bind (f := fun _ t => some t) (Ev.eq (trim_sp (by simp; omega) (Dig_set hdo _ (by omega))) (by rw [hv'])) (Ev.now _))
    clear hv hv'
    simp only [nat_Add.l0]
    rw [if_neg (by omega), if_pos (by omega), if_pos (by omega)]
    rfl
  | succ d ih =>
    intro i out c hd hi ho hdo hc hv
    have hai := Dig_getD ha i
    have hbi := Dig_getD hb i
    have hs := add_step hai.1 hbi.1 hc.1
    have key : Ev (fun k => nat_Add.l0 k a b (out.set i ((a.getD i 0 + b.getD i 0 + c) % 4294967296)) ((a.getD i 0 + b.getD i 0 + c) / 4294967296) a.length (i + 1 : Nat)) (dg (val a + val b)) := by
      refine ih (i + 1) _ _ (by omega) (by omega) (by simpa using ho) (Dig_set hdo _ (by omega)) (by omega) ?_
      rw [val_take_set _ _ _ (by omega), val_take_succ, val_take_succ, Nat.pow_succ]
      have : 4294967296 ^ i * (((a.getD i 0 + b.getD i 0 + c) % 4294967296).toNat + 4294967296 * ((a.getD i 0 + b.getD i 0 + c) / 4294967296).toNat) = 4294967296 ^ i * ((a.getD i 0).toNat + (b.getD i 0).toNat + c.toNat) := by rw [hs]
      grind
    refine Ev.step (fun k => ?_) key
    clear key hv hs ih
    have hw : wrap64 ((i : Int) + 1) = ((i + 1 : Nat) : Int) := by rw [w64] <;> omega
    simp only [nat_Add.l0]
    rw [if_pos (by omega)]
    by_cases hib : i < b.length
    · rw [if_pos (by omega), if_pos (by omega), if_pos (by omega), rd_nat, rd_nat, Add32_eq hai hbi hc]
      simp only [Option.bind_some]
      rw [if_pos (by omega), hw]
      rfl
    · have hz : b.getD i 0 = 0 := getD_ge b (by omega)
      rw [if_neg (by omega), if_pos (by omega), if_pos (by omega), rd_nat, Add32_eq hai (by omega) hc]
      simp only [Option.bind_some]
      rw [if_pos (by omega), hw, hz]
      rfl

theorem Add_j0 (a b : List Int) (ha : Dig a) (hb : Dig b) (hl : b.length ≤ a.length) (hn : a.length ≤ 100000000) :
    Ev (fun k => nat_Add.j0 k a b) (dg (val a + val b)) := by
  have h0 := Add_loop a b ha hb hl hn a.length 0 (List.replicate (a.length + 1) 0) 0 (by omega) (by omega) (by simp) (Dig_zeros _) (by omega) (by simp [val])
  refine Ev.step (fun k => ?_) h0
  have hw : wrap64 ((a.length : Int) + 1) = ((a.length + 1 : Nat) : Int) := by rw [w64] <;> omega
  simp only [nat_Add.j0]
  rw [hw, if_pos (by omega), if_pos (by omega)]
  rfl

theorem Add_sp {a b : List Int} (ha : Dig a) (hb : Dig b) (hn : a.length ≤ 100000000) (hm : b.length ≤ 100000000) :
    Ev (fun k => nat_Add.f k a b) (dg (val a + val b)) := by
  by_cases h : a.length < b.length
  · refine Ev.congr (f := fun k => nat_Add.j0 k b a) (fun k => ?_) (Ev.eq (Add_j0 b a hb ha (by omega) hm) (by rw [Nat.add_comm]))
    unfold nat_Add.f; rw [if_pos (by omega)]
  · refine Ev.congr (f := fun k => nat_Add.j0 k a b) (fun k => ?_) (Add_j0 a b ha hb (by omega) hn)
    unfold nat_Add.f; rw [if_neg (by omega)]

/-! Products -/
theorem mul_step {out : List Int} {i j : Nat} {x y c : Int} (V X : Nat) (ho : Dig out) (h : i + j < out.length) (hx : 0 ≤ x ∧ x < 4294967296) (hy : 0 ≤ y ∧ y < 4294967296) (hc : 0 ≤ c ∧ c < 4294967296)
    (hv : val out + 4294967296 ^ (i + j) * c.toNat = V + 4294967296 ^ i * X) :
    0 ≤ x * y + out.getD (i + j) 0 + c ∧ x * y + out.getD (i + j) 0 + c < 18446744073709551616 ∧
    val (out.set (i + j) ((x * y + out.getD (i + j) 0 + c) % 4294967296)) + 4294967296 ^ (i + (j + 1)) * ((x * y + out.getD (i + j) 0 + c) / 4294967296).toNat = V + 4294967296 ^ i * (X + 4294967296 ^ j * (x.toNat * y.toNat)) := by
  have hm := mul_le hx hy
  have hg := Dig_getD ho (i + j)
  have hs := val_set out (i + j) ((x * y + out.getD (i + j) 0 + c) % 4294967296) h
  generalize hoo : out.getD (i + j) 0 = o at hg hs ⊢
  obtain ⟨p, hp⟩ : ∃ p : Nat, x * y = p := ⟨(x * y).toNat, by omega⟩
  have hpn : x.toNat * y.toNat = p := by
    have : ((x.toNat * y.toNat : Nat) : Int) = p := by rw [Int.natCast_mul, Int.toNat_of_nonneg hx.1, Int.toNat_of_nonneg hy.1, hp]
    exact Int.ofNat.inj this
  rw [hp] at hm hs ⊢
  rw [hpn]
  refine ⟨by omega, by omega, ?_⟩
  have e : (((p : Int) + o + c) % 4294967296).toNat + 4294967296 * (((p : Int) + o + c) / 4294967296).toNat = p + o.toNat + c.toNat := by omega
  generalize (((p : Int) + o + c) % 4294967296).toNat = lo at e hs
  generalize (((p : Int) + o + c) / 4294967296).toNat = hi at e ⊢
  have e2 : 4294967296 ^ (i + j) * (lo + 4294967296 * hi) = 4294967296 ^ (i + j) * (p + o.toNat + c.toNat) := by rw [e]
  rw [show i + (j + 1) = (i + j) + 1 by omega, Nat.pow_succ, Nat.mul_add (4294967296 ^ i), ← Nat.mul_assoc (4294967296 ^ i) (4294967296 ^ j), ← Nat.pow_add]
  grind

theorem div_bd {s : Int} (h0 : 0 ≤ s) (h1 : s < 18446744073709551616) : 0 ≤ s / 4294967296 ∧ s / 4294967296 < 4294967296 := by omega
theorem mod_bd (s : Int) : 0 ≤ s % 4294967296 ∧ s % 4294967296 < 4294967296 := by omega

theorem dig64 {x : Int} (h : 0 ≤ x ∧ x < 4294967296) : IntKind.u64.wrap x = x := u64 h.1 (by omega)
theorem lt_of_le_u64 {x : Int} (h : x ≤ 18446744065119617025) : x < 18446744073709551616 := by omega
theorem lt_u64 {x y : Int} (h : x ≤ 18446744065119617025) (hy : y < 4294967296) : x + y < 18446744073709551616 := by omega

theorem Mul_inner (b : List Int) (hb : Dig b) (la i : Nat) (hi : i < la) (hla : la ≤ 100000000) (hlb : b.length ≤ 100000000) (x : Int) (hx : 0 ≤ x ∧ x < 4294967296) (a22 : List Int) (x24 : Int) (V : Nat) (r : List Int)
    (hnext : ∀ out : List Int, out.length = la + b.length → Dig out → (∀ q, i + b.length + 1 ≤ q → out.getD q 0 = 0) → val out = V + 4294967296 ^ i * (x.toNat * val b) → Ev (fun k => nat_Mul.l0 k b out a22 la (wrap64 (x24 + 1))) r) :
    ∀ (d j : Nat) (out : List Int) (c : Int), b.length - j = d → j ≤ b.length → out.length = la + b.length → Dig out → (∀ q, i + b.length ≤ q → out.getD q 0 = 0) → 0 ≤ c ∧ c < 4294967296 →
      val out + 4294967296 ^ (i + j) * c.toNat = V + 4294967296 ^ i * (x.toNat * val (b.take j)) →
      Ev (fun k => nat_Mul.l1 k b out i x c a22 la x24 b b.length j) r := by
  intro d
  induction d with
  | zero =>
    intro j out c hd hj ho hdo hz hc hv
    have e : j = b.length := by omega
    subst e
    have h1 : Ev (fun k => nat_Mul.l0 k b (out.set (i + b.length) (c % 4294967296)) a22 la (wrap64 (x24 + 1))) r := by
      refine hnext _ (by simpa using ho) (Dig_set hdo _ (by omega)) (fun q hq => ?_) ?_
      · rw [getD_set, if_neg (by omega)]; exact hz q (by omega)
      · have hs := val_set out (i + b.length) (c % 4294967296) (by omega)
        rw [hz _ (Nat.le_refl _), Int.emod_eq_of_lt hc.1 hc.2] at hs
        rw [Int.emod_eq_of_lt hc.1 hc.2]
        rw [take_all_val] at hv
        rw [Int.toNat_zero, Nat.mul_zero, Nat.add_zero] at hs
        rw [hs, hv]
    refine Ev.step (fun k => ?_) h1
    clear h1 hv hz hnext
    have hw : wrap64 ((i : Int) + (b.length : Int)) = ((i + b.length : Nat) : Int) := by rw [w64] <;> omega
    simp only [nat_Mul.l1]
    rw [if_neg (by omega), hw, if_pos (by omega), if_pos (by omega)]
    rfl
  | succ d ih =>
    intro j out c hd hj ho hdo hz hc hv
    have e1 : b.length - (j + 1) = d := by omega
    have e2 : j + 1 ≤ b.length := by omega
    have e3 : i + j < out.length := by omega
    have e7 : ∀ q, i + b.length ≤ q → ¬ (i + j = q ∧ i + j < out.length) := fun q hq h => by clear hv; omega
    have f1 : (j : Int) < (b.length : Int) := by clear hv; omega
    have f2 : (0 : Int) ≤ (j : Int) := by clear hv; omega
    have f4 : (0 : Int) ≤ ((i + j : Nat) : Int) := by clear hv; omega
    have f5 : ((i + j : Nat) : Int) < (out.length : Int) := by clear hv; omega
    have e4 : wrap64 ((i : Int) + (j : Int)) = ((i + j : Nat) : Int) := by clear hv; rw [w64] <;> omega
    have e5 : wrap64 ((j : Int) + 1) = ((j + 1 : Nat) : Int) := by clear hv; rw [w64] <;> omega
    have hy := Dig_getD hb j
    obtain ⟨s0, s1, s2⟩ := mul_step V (x.toNat * val (b.take j)) hdo (i := i) (j := j) e3 hx hy hc hv
    have hgo := Dig_getD hdo (i + j)
    have e6 : x.toNat * val (b.take (j + 1)) = x.toNat * val (b.take j) + 4294967296 ^ j * (x.toNat * (b.getD j 0).toNat) := by
      rw [val_take_succ, Nat.mul_add, Nat.mul_left_comm]
    have h1 : Ev (fun k => nat_Mul.l1 k b (out.set (i + j) ((x * b.getD j 0 + out.getD (i + j) 0 + c) % 4294967296)) i x ((x * b.getD j 0 + out.getD (i + j) 0 + c) / 4294967296) a22 la x24 b b.length (j + 1 : Nat)) r := by
      refine ih (j + 1) _ _ e1 e2 (by simpa using ho) (Dig_set hdo _ (mod_bd _)) (fun q hq => ?_) (div_bd s0 s1) ?_
      · rw [getD_set, if_neg (e7 q hq)]; exact hz q hq
      · rw [e6]; exact s2
    refine Ev.step (fun k => ?_) h1
    obtain ⟨m1, m2⟩ := mul_le hx hy
    have g1 := u64 (x := x * b.getD j 0) m1 (lt_of_le_u64 m2)
    have g2 := u64 (x := x * b.getD j 0 + out.getD (i + j) 0) (Int.add_nonneg m1 hgo.1) (lt_u64 m2 hgo.2)
    simp only [nat_Mul.l1]
    rw [if_pos f1, if_pos f2, if_pos f1, e4, if_pos f4, if_pos f5, e5, rd_nat, rd_nat, dig64 hx, dig64 hy, dig64 hgo, g1, g2, u64 (x := x * b.getD j 0 + out.getD (i + j) 0 + c) s0 s1]
    rfl

theorem Mul_outer (a b : List Int) (ha : Dig a) (hb : Dig b) (hla : a.length ≤ 100000000) (hlb : b.length ≤ 100000000) :
    ∀ (d i : Nat) (out : List Int), a.length - i = d → i ≤ a.length → out.length = a.length + b.length → Dig out → (∀ q, i + b.length ≤ q → out.getD q 0 = 0) → val out = val (a.take i) * val b →
      Ev (fun k => nat_Mul.l0 k b out a a.length i) (dg (val a * val b)) := by
  intro d
  induction d with
  | zero =>
    intro i out hd hi ho hdo hz hv
    have e : i = a.length := by omega
    subst e
    rw [take_all_val] at hv
    refine Ev.step (f := fun k => (nat_trim.f k out).bind fun t => some t) (fun k => ?_) (Ev.bind (f := fun _ t => some t) (Ev.eq (trim_sp (by omega) hdo) (by rw [hv])) (Ev.now _))
    simp only [nat_Mul.l0]
    rw [if_neg (by omega)]
  | succ d ih =>
    intro i out hd hi ho hdo hz hv
    have hx := Dig_getD ha i
    have hw1 : wrap64 ((i : Int) + 1) = ((i + 1 : Nat) : Int) := by rw [w64] <;> omega
    have h1 := Mul_inner b hb a.length i (by omega) hla hlb (a.getD i 0) hx a i (val out) (dg (val a * val b)) (fun out' ho' hdo' hz' hv' => by
      rw [hw1]
      refine ih (i + 1) out' (by omega) (by omega) ho' hdo' (fun q hq => hz' q (by omega)) ?_
      rw [hv', hv, val_take_succ]
      grind) b.length 0 out 0 (by omega) (by omega) ho hdo hz (by omega) (by simp [val])
    refine Ev.step (fun k => ?_) h1
    clear h1 hv hz ih
    simp only [nat_Mul.l0]
    rw [if_pos (by omega), if_pos (by omega), if_pos (by omega), rd_nat]
    rfl

theorem Mul_sp {a b : List Int} (ha : Dig a) (hb : Dig b) (hn : a.length ≤ 100000000) (hm : b.length ≤ 100000000) :
    Ev (fun k => nat_Mul.f k a b) (dg (val a * val b)) := by
  refine Ev.bind (f := fun k t129 => _) (trim_sp (by omega) ha) (Ev.bind (f := fun k t132 => _) (trim_sp (by omega) hb) ?_)
  have la := dg_len ha
  have lb := dg_len hb
  have h0 := Mul_outer (dg (val a)) (dg (val b)) (Dig_dg _) (Dig_dg _) (by omega) (by omega) (dg (val a)).length 0 (List.replicate ((dg (val a)).length + (dg (val b)).length) 0) (by omega) (by omega) (by simp) (Dig_zeros _) (fun q _ => by simp [List.getD_eq_getElem?_getD, List.getElem?_replicate]; split <;> rfl) (by rw [val_zeros, take_zero_val]; simp)
  rw [val_dg, val_dg] at h0
  refine Ev.congr (fun k => ?_) h0
  have hw : wrap64 (((dg (val a)).length : Int) + ((dg (val b)).length : Int)) = (((dg (val a)).length + (dg (val b)).length : Nat) : Int) := by rw [w64] <;> omega
  rw [hw, if_pos (by omega), if_pos (by omega)]
  rfl

end Go.Proofs.Ytohkjfdcmiiehaa.Sp
