/- The plain law of the document's own answer to chapter 1: sums, products, comparisons, differences. -/
import Derived.Test.YtpodpfppbkjbcaaP4
import Derived.Test.YtpodpfppbkjbcaaRb
namespace Go.Proofs.Ytpodpfppbkjbcaa.Sp
open Go.RowKit Go.Proofs.Ytpodpfppbkjbcaa.P Go.Proofs.Ytpodpfppbkjbcaa.Num Go.Proofs.YtpodpfppbkjbcaaW.PrintWords Go.Proofs.YtpodpfppbkjbcaaW.PrintLast Go.Proofs.YtpodpfppbkjbcaaW.PrintMore

theorem mx_nat (a b : Nat) : mx (a : Int) (b : Int) = ((max a b : Nat) : Int) := by
  unfold mx
  by_cases h : a < b
  · rw [if_pos (by omega), Nat.max_eq_right (by omega)]
  · rw [if_neg (by omega), Nat.max_eq_left (by omega)]

theorem add_alg {vo w x y a b c lo hi s : Nat} (hv : vo + w * c = x + y) (hs : s = a + b + c) (hl : lo + 4294967296 * hi = s) : vo + w * lo + w * (4294967296 * hi) = x + w * a + (y + w * b) := by
  have : w * lo + w * (4294967296 * hi) = w * a + w * b + w * c := by rw [← Nat.mul_add, hl, hs, Nat.mul_add, Nat.mul_add]
  rw [Nat.add_assoc, this]
  omega

theorem rMul_inner (a b : List Int) (ha : Dig a) (hb : Dig b) (i : Nat) (hi : i < a.length) (hla : a.length ≤ 100000000) (hlb : b.length ≤ 100000000) (V : Nat) (r : List Int)
    (hnext : ∀ out : List Int, out.length = a.length + b.length → Dig out → (∀ q, i + b.length + 1 ≤ q → out.getD q 0 = 0) → val out = V + 4294967296 ^ i * ((a.getD i 0).toNat * val b) → Ev (fun k => astrolaberef01_Mul.l0 k a b out (i + 1 : Nat)) r) :
    ∀ (d j : Nat) (out : List Int) (c : Int), d + j = b.length → out.length = a.length + b.length → Dig out → (∀ q, i + b.length ≤ q → out.getD q 0 = 0) → 0 ≤ c ∧ c < 4294967296 →
      val out + 4294967296 ^ (i + j) * c.toNat = V + 4294967296 ^ i * ((a.getD i 0).toNat * val (b.take j)) →
      Ev (fun k => astrolaberef01_Mul.l1 k a b out i c j) r := by
  have hx := Dig_getD ha i
  have f3 : (0 : Int) ≤ (i : Int) := Int.natCast_nonneg i
  have f6 : (i : Int) < (a.length : Int) := Int.ofNat_lt.2 hi
  intro d
  induction d with
  | zero =>
    intro j out c hd ho hdo hz hc hv
    have e : j = b.length := by clear hv; omega
    subst e
    have g1 : wrap64 ((i : Int) + (b.length : Int)) = ((i + b.length : Nat) : Int) := by clear hv; rw [w64] <;> omega
    have g2 : wrap64 ((i : Int) + 1) = ((i + 1 : Nat) : Int) := by clear hv g1; rw [w64] <;> omega
    have g3 : ((i + b.length : Nat) : Int) < (out.length : Int) := by clear hv; omega
    have g4 : i + b.length < out.length := by clear hv; omega
    have g5 : ∀ q, i + b.length + 1 ≤ q → ¬ (i + b.length = q ∧ i + b.length < out.length) := fun q hq h => by clear hv; omega
    have h1 : Ev (fun k => astrolaberef01_Mul.l0 k a b (out.set (i + b.length) (c % 4294967296)) (i + 1 : Nat)) r := by
      refine hnext _ (by simpa using ho) (Dig_set hdo _ (mod_bd _)) (fun q hq => ?_) ?_
      · rw [getD_set, if_neg (g5 q hq)]; exact hz q (by clear hv; omega)
      · have hs := val_set out (i + b.length) (c % 4294967296) g4
        rw [hz _ (Nat.le_refl _), Int.emod_eq_of_lt hc.1 hc.2] at hs
        rw [Int.emod_eq_of_lt hc.1 hc.2]
        rw [take_all_val] at hv
        rw [Int.toNat_zero, Nat.mul_zero, Nat.add_zero] at hs
        rw [hs, hv]
    refine Ev.step (fun k => ?_) h1
    clear h1 hv hz hnext
    simp only [astrolaberef01_Mul.l1]
    rw [if_neg (Int.lt_irrefl _), g1, if_pos (Int.natCast_nonneg _), if_pos g3, g2]
    rfl
  | succ d ih =>
    intro j out c hd ho hdo hz hc hv
    have e1 : d + (j + 1) = b.length := by clear hv; omega
    have e3 : i + j < out.length := by clear hv; omega
    have e7 : ∀ q, i + b.length ≤ q → ¬ (i + j = q ∧ i + j < out.length) := fun q hq h => by clear hv; omega
    have f1 : (j : Int) < (b.length : Int) := by clear hv; omega
    have f2 : (0 : Int) ≤ (j : Int) := Int.natCast_nonneg j
    have f4 : (0 : Int) ≤ ((i + j : Nat) : Int) := Int.natCast_nonneg _
    have f5 : ((i + j : Nat) : Int) < (out.length : Int) := by clear hv; omega
    have e4 : wrap64 ((i : Int) + (j : Int)) = ((i + j : Nat) : Int) := by clear hv; rw [w64] <;> omega
    have e5 : wrap64 ((j : Int) + 1) = ((j + 1 : Nat) : Int) := by clear hv e4; rw [w64] <;> omega
    have hy := Dig_getD hb j
    obtain ⟨s0, s1, s2⟩ := mul_step V ((a.getD i 0).toNat * val (b.take j)) hdo (i := i) (j := j) e3 hx hy hc hv
    have hgo := Dig_getD hdo (i + j)
    have e6 : (a.getD i 0).toNat * val (b.take (j + 1)) = (a.getD i 0).toNat * val (b.take j) + 4294967296 ^ j * ((a.getD i 0).toNat * (b.getD j 0).toNat) := by
      rw [val_take_succ, Nat.mul_add, Nat.mul_left_comm]
    have h1 : Ev (fun k => astrolaberef01_Mul.l1 k a b (out.set (i + j) ((a.getD i 0 * b.getD j 0 + out.getD (i + j) 0 + c) % 4294967296)) i ((a.getD i 0 * b.getD j 0 + out.getD (i + j) 0 + c) / 4294967296) (j + 1 : Nat)) r := by
      refine ih (j + 1) _ _ e1 (by simpa using ho) (Dig_set hdo _ (mod_bd _)) (fun q hq => ?_) (div_bd s0 s1) ?_
      · rw [getD_set, if_neg (e7 q hq)]; exact hz q hq
      · rw [e6]; exact s2
    refine Ev.step (fun k => ?_) h1
    obtain ⟨m1, m2⟩ := mul_le hx hy
    have g1 := u64 (x := a.getD i 0 * b.getD j 0) m1 (lt_of_le_u64 m2)
    have g2 := u64 (x := a.getD i 0 * b.getD j 0 + out.getD (i + j) 0) (Int.add_nonneg m1 hgo.1) (lt_u64 m2 hgo.2)
    simp only [astrolaberef01_Mul.l1]
    rw [if_pos f1, if_pos f3, if_pos f6, if_pos f2, e4, if_pos f4, if_pos f5, e5, rd_nat, rd_nat, rd_nat, dig64 hx, dig64 hy, dig64 hgo, g1, g2, u64 (x := a.getD i 0 * b.getD j 0 + out.getD (i + j) 0 + c) s0 s1]
    rfl

theorem rMul_outer (a b : List Int) (ha : Dig a) (hb : Dig b) (hla : a.length ≤ 100000000) (hlb : b.length ≤ 100000000) :
    ∀ (d i : Nat) (out : List Int), d + i = a.length → out.length = a.length + b.length → Dig out → (∀ q, i + b.length ≤ q → out.getD q 0 = 0) → val out = val (a.take i) * val b →
      Ev (fun k => astrolaberef01_Mul.l0 k a b out i) (dg (val a * val b)) := by
  intro d
  induction d with
  | zero =>
    intro i out hd ho hdo hz hv
    have e : i = a.length := by omega
    subst e
    rw [take_all_val] at hv
    refine Ev.step (f := fun k => (astrolaberef01_Trim.f k out).bind fun t => some t) (fun k => ?_) (Ev.bind (f := fun _ t => some t) (Ev.eq (rTrim_sp hdo (by omega)) (by rw [hv])) (Ev.now _))
    simp only [astrolaberef01_Mul.l0]
    rw [if_neg (Int.lt_irrefl _)]
  | succ d ih =>
    intro i out hd ho hdo hz hv
    have hi : i < a.length := by clear hv; omega
    have e1 : d + (i + 1) = a.length := by clear hv; omega
    have h1 := rMul_inner a b ha hb i hi hla hlb (val out) (dg (val a * val b)) (fun out' ho' hdo' hz' hv' => by
      refine ih (i + 1) out' e1 ho' hdo' (fun q hq => hz' q (by clear hv hv'; omega)) ?_
      rw [hv', hv, val_take_succ, Nat.add_mul, Nat.mul_assoc]) b.length 0 out 0 (Nat.add_zero _) ho hdo hz (by decide) (by rw [take_zero_val, Nat.mul_zero, Nat.mul_zero, Int.toNat_zero, Nat.mul_zero])
    refine Ev.step (fun k => ?_) h1
    simp only [astrolaberef01_Mul.l0]
    rw [if_pos (Int.ofNat_lt.2 hi)]
    rfl

theorem rMul_sp {a b : List Int} (ha : Dig a) (hb : Dig b) (hn : a.length ≤ 100000000) (hm : b.length ≤ 100000000) :
    Ev (fun k => astrolaberef01_Mul.f k a b) (dg (val a * val b)) := by
  have h0 := rMul_outer a b ha hb hn hm a.length 0 (List.replicate (a.length + b.length) 0) (Nat.add_zero _) (by simp) (Dig_zeros _) (fun q _ => by simp [List.getD_eq_getElem?_getD, List.getElem?_replicate]; split <;> rfl) (by rw [val_zeros, take_zero_val, Nat.zero_mul])
  have hw : wrap64 ((a.length : Int) + (b.length : Int)) = ((a.length + b.length : Nat) : Int) := by rw [w64] <;> omega
  refine Ev.congr (fun k => ?_) h0
  unfold astrolaberef01_Mul.f
  rw [hw, if_pos (Int.natCast_nonneg _), if_pos (by omega)]
  rfl

theorem val_take_mod (l : List Int) (h : Dig l) (n : Nat) : val (l.take n) = val l % 4294967296 ^ n := by
  by_cases hn : n ≤ l.length
  · have h1 := val_split l n
    rw [Nat.min_eq_left hn] at h1
    have h2 := val_lt (Dig_take h n)
    rw [List.length_take, Nat.min_eq_left hn] at h2
    rw [h1, Nat.add_mul_mod_self_left, Nat.mod_eq_of_lt h2]
  · rw [take_ge_val l (by omega), Nat.mod_eq_of_lt (Nat.lt_of_lt_of_le (val_lt h) (pow_le (by omega)))]

theorem sub_alg {vo w x y a b c lo hi : Nat} (hv : vo + y = x + w * c) (hs : lo + b + c = a + 4294967296 * hi) : vo + w * lo + (y + w * b) = x + w * a + w * (4294967296 * hi) := by
  have h1 : w * lo + w * b + w * c = w * a + w * (4294967296 * hi) := by rw [← Nat.mul_add, ← Nat.mul_add, hs, Nat.mul_add]
  omega

end Go.Proofs.Ytpodpfppbkjbcaa.Sp
