/- The plain law of the document's own answer to chapter 1: sums, products, comparisons, differences. -/
import Derived.Test.YtmkffnhgcpdbaaaP5
import Derived.Test.YtmkffnhgcpdbaaaP6
import Derived.Test.YtmkffnhgcpdbaaaP7
import Derived.Test.YtmkffnhgcpdbaaaRb
namespace Go.Proofs.Ytmkffnhgcpdbaaa.Sp
open Go.RowKit Go.Proofs.Ytmkffnhgcpdbaaa.P Go.Proofs.Ytmkffnhgcpdbaaa.Num Go.Proofs.YtmkffnhgcpdbaaaW.PrintWords Go.Proofs.YtmkffnhgcpdbaaaW.PrintLast Go.Proofs.YtmkffnhgcpdbaaaW.PrintMore

theorem mx_nat (a b : Nat) : mx (a : Int) (b : Int) = ((max a b : Nat) : Int) := by
  unfold mx
  by_cases h : a < b
  · rw [if_pos (by omega), Nat.max_eq_right (by omega)]
  · rw [if_neg (by omega), Nat.max_eq_left (by omega)]

theorem add_alg {vo w x y a b c lo hi s : Nat} (hv : vo + w * c = x + y) (hs : s = a + b + c) (hl : lo + 4294967296 * hi = s) : vo + w * lo + w * (4294967296 * hi) = x + w * a + (y + w * b) := by
  have : w * lo + w * (4294967296 * hi) = w * a + w * b + w * c := by rw [← Nat.mul_add, hl, hs, Nat.mul_add, Nat.mul_add]
  rw [Nat.add_assoc, this]
  omega

theorem rAdd_loop (a b : List Int) (ha : Dig a) (hb : Dig b) (M : Nat) (hM : M = max a.length b.length) (hn : M ≤ 100000000) :
    ∀ (d i : Nat) (out : List Int) (c : Nat), d + i = M + 1 → out.length = i → Dig out → c ≤ 1 → val out + 4294967296 ^ i * c = val (a.take i) + val (b.take i) →
      Ev (fun k => astrolaberef01_Add.l0 k a b out c i) (dg (val a + val b)) := by
  have la : a.length ≤ M := by omega
  have lb : b.length ≤ M := by omega
  have hw : wrap64 (mx (a.length : Int) (b.length : Int) + 1) = ((M + 1 : Nat) : Int) := by rw [mx_nat, ← hM, w64] <;> omega
  intro d
  induction d with
  | zero =>
    intro i out c hd ho hdo hc hv
    have e : i = M + 1 := by omega
    subst e
    rw [take_ge_val _ (by omega), take_ge_val _ (by omega)] at hv
    have hx := Nat.lt_of_lt_of_le (val_lt ha) (pow_le la)
    have hy := Nat.lt_of_lt_of_le (val_lt hb) (pow_le lb)
    have hs : val out = val a + val b := by
      rcases (show c = 0 ∨ c = 1 by clear hv hx hy; omega) with rfl | rfl
      · rw [Nat.mul_zero, Nat.add_zero] at hv; exact hv
      · exfalso
        rw [Nat.mul_one, Nat.pow_succ] at hv
        generalize 4294967296 ^ M = p at hv hx hy
        omega
    rw [← hs]
    clear hv hx hy hs
    refine Ev.step (f := fun k => (astrolaberef01_Trim.f k out).bind fun t => some t) (fun k => ?_) (Ev.bind (f := fun _ t => some t) (rTrim_sp hdo (by omega)) (Ev.now _))
    simp only [astrolaberef01_Add.l0]
    rw [hw, if_neg (Int.lt_irrefl _)]
  | succ d ih =>
    intro i out c hd ho hdo hc hv
    have hx := Dig_getD ha i
    have hy := Dig_getD hb i
    have f1 : (i : Int) < ((M + 1 : Nat) : Int) := by clear hv; omega
    have f2 : out.length < 35184372088832 := by clear hv; omega
    have f3 : d + (i + 1) = M + 1 := by clear hv; omega
    have t5 : wrap64 ((i : Int) + 1) = (i + 1 : Nat) := by clear hv hw; rw [w64] <;> omega
    obtain ⟨x, hxe⟩ := Int.eq_ofNat_of_zero_le hx.1
    obtain ⟨y, hye⟩ := Int.eq_ofNat_of_zero_le hy.1
    rw [hxe] at hx
    rw [hye] at hy
    obtain ⟨s, hs⟩ : ∃ s, s = x + y + c := ⟨_, rfl⟩
    have hs64 : (x : Int) + (y : Int) + (c : Int) = (s : Int) := by clear hv; omega
    have hsb : s < 18446744073709551616 := by clear hv; omega
    have hhi : s / 4294967296 ≤ 1 := by clear hv; omega
    have hm : ((s : Int) % 4294967296).toNat = s % 4294967296 := by clear hv; omega
    have hq : (s : Int) / 4294967296 = ((s / 4294967296 : Nat) : Int) := by clear hv; omega
    have g1 : IntKind.u64.wrap ((x : Int) + (y : Int)) = (x : Int) + (y : Int) := by clear hv; exact u64 (by omega) (by omega)
    have g2 : IntKind.u64.wrap ((x : Int) + (y : Int) + (c : Int)) = (s : Int) := by rw [hs64]; clear hv; exact u64 (by omega) (by omega)
    have key : Ev (fun k => astrolaberef01_Add.l0 k a b (out ++ [(s : Int) % 4294967296]) ((s / 4294967296 : Nat) : Int) (i + 1 : Nat)) (dg (val a + val b)) := by
      refine ih (i + 1) _ _ f3 (by rw [List.length_append, ho]; rfl) (Dig_snoc hdo (mod_bd _)) hhi ?_
      rw [val_snoc, hm, ho, val_take_succ, val_take_succ, hxe, hye, Int.toNat_natCast, Int.toNat_natCast, Nat.pow_succ, Nat.mul_assoc (4294967296 ^ i)]
      exact add_alg hv hs (Nat.mod_add_div s 4294967296)
    refine Ev.step (fun k => ?_) key
    clear key ih hv
    simp only [astrolaberef01_Add.l0]
    rw [hw, if_pos f1, rat_eq ha, rat_eq hb]
    simp only [Option.bind_some]
    rw [if_pos f2, t5, hxe, hye, g1, g2, hq]

theorem rAdd_sp {a b : List Int} (ha : Dig a) (hb : Dig b) (hn : a.length ≤ 100000000) (hm : b.length ≤ 100000000) :
    Ev (fun k => astrolaberef01_Add.f k a b) (dg (val a + val b)) :=
  rAdd_loop a b ha hb _ rfl (by omega) (max a.length b.length + 1) 0 [] 0 rfl rfl Dig_nil (by decide) (by rw [take_zero_val, take_zero_val]; rfl)

theorem rMul_inner (a b : List Int) (ha : Dig a) (hb : Dig b) (i : Nat) (hi : i < a.length) (hla : a.length ≤ 100000000) (hlb : b.length ≤ 100000000) (V : Nat) (r : List Int)
    (hnext : ∀ out : List Int, out.length = a.length + b.length → Dig out → (∀ q, i + b.length + 1 ≤ q → out.getD q 0 = 0) → val out = V + 4294967296 ^ i * ((a.getD i 0).toNat * val b) → Ev (fun k => astrolaberef01_Mul.l0 k a b out (i + 1 : Nat)) r) :
    ∀ (d j : Nat) (out : List Int) (c : Int), d + j = b.length → out.length = a.length + b.length → Dig out → (∀ q, i + b.length ≤ q → out.getD q 0 = 0) → 0 ≤ c ∧ c < 4294967296 →
      val out + 4294967296 ^ (i + j) * c.toNat = V + 4294967296 ^ i * ((a.getD i 0).toNat * val (b.take j)) →
      Ev (fun k => astrolaberef01_Mul.l1 k a b out i c j) r := by
  have hx := Dig_getD ha i
  have f3 : (0 : Int) ≤ (i : Int) := Int.natCast_nonneg i
  have f6 : (i : Int) < (a.length : Int) := Int.ofNat_lt.2 hi
  intro d
  induction d with
  | zero =>
    intro j out c hd ho hdo hz hc hv
    have e : j = b.length := by clear hv; omega
    subst e
    have g1 : wrap64 ((i : Int) + (b.length : Int)) = ((i + b.length : Nat) : Int) := by clear hv; rw [w64] <;> omega
    have g2 : wrap64 ((i : Int) + 1) = ((i + 1 : Nat) : Int) := by clear hv g1; rw [w64] <;> omega
    have g3 : ((i + b.length : Nat) : Int) < (out.length : Int) := by clear hv; omega
    have g4 : i + b.length < out.length := by clear hv; omega
    have g5 : ∀ q, i + b.length + 1 ≤ q → ¬ (i + b.length = q ∧ i + b.length < out.length) := fun q hq h => by clear hv; omega
    have h1 : Ev (fun k => astrolaberef01_Mul.l0 k a b (out.set (i + b.length) (c % 4294967296)) (i + 1 : Nat)) r := by
      refine hnext _ (by simpa using ho) (Dig_set hdo _ (mod_bd _)) (fun q hq => ?_) ?_
      · rw [getD_set, if_neg (g5 q hq)]; exact hz q (by clear hv; omega)
      · have hs := val_set out (i + b.length) (c % 4294967296) g4
        rw [hz _ (Nat.le_refl _), Int.emod_eq_of_lt hc.1 hc.2] at hs
        rw [Int.emod_eq_of_lt hc.1 hc.2]
        rw [take_all_val] at hv
        rw [Int.toNat_zero, Nat.mul_zero, Nat.add_zero] at hs
        rw [hs, hv]
    refine Ev.step (fun k => ?_) h1
    clear h1 hv hz hnext
    simp only [astrolaberef01_Mul.l1]
    rw [if_neg (Int.lt_irrefl _), g1, if_pos (Int.natCast_nonneg _), if_pos g3, g2]
    rfl
  | succ d ih =>
    intro j out c hd ho hdo hz hc hv
    have e1 : d + (j + 1) = b.length := by clear hv; omega
    have e3 : i + j < out.length := by clear hv; omega
    have e7 : ∀ q, i + b.length ≤ q → ¬ (i + j = q ∧ i + j < out.length) := fun q hq h => by clear hv; omega
    have f1 : (j : Int) < (b.length : Int) := by clear hv; omega
    have f2 : (0 : Int) ≤ (j : Int) := Int.natCast_nonneg j
    have f4 : (0 : Int) ≤ ((i + j : Nat) : Int) := Int.natCast_nonneg _
    have f5 : ((i + j : Nat) : Int) < (out.length : Int) := by clear hv; omega
    have e4 : wrap64 ((i : Int) + (j : Int)) = ((i + j : Nat) : Int) := by clear hv; rw [w64] <;> omega
    have e5 : wrap64 ((j : Int) + 1) = ((j + 1 : Nat) : Int) := by clear hv e4; rw [w64] <;> omega
    have hy := Dig_getD hb j
    obtain ⟨s0, s1, s2⟩ := mul_step V ((a.getD i 0).toNat * val (b.take j)) hdo (i := i) (j := j) e3 hx hy hc hv
    have hgo := Dig_getD hdo (i + j)
    have e6 : (a.getD i 0).toNat * val (b.take (j + 1)) = (a.getD i 0).toNat * val (b.take j) + 4294967296 ^ j * ((a.getD i 0).toNat * (b.getD j 0).toNat) := by
      rw [val_take_succ, Nat.mul_add, Nat.mul_left_comm]
    have h1 : Ev (fun k => astrolaberef01_Mul.l1 k a b (out.set (i + j) ((a.getD i 0 * b.getD j 0 + out.getD (i + j) 0 + c) % 4294967296)) i ((a.getD i 0 * b.getD j 0 + out.getD (i + j) 0 + c) / 4294967296) (j + 1 : Nat)) r := by
      refine ih (j + 1) _ _ e1 (by simpa using ho) (Dig_set hdo _ (mod_bd _)) (fun q hq => ?_) (div_bd s0 s1) ?_
      · rw [getD_set, if_neg (e7 q hq)]; exact hz q hq
      · rw [e6]; exact s2
    refine Ev.step (fun k => ?_) h1
    obtain ⟨m1, m2⟩ := mul_le hx hy
    have g1 := u64 (x := a.getD i 0 * b.getD j 0) m1 (lt_of_le_u64 m2)
    have g2 := u64 (x := a.getD i 0 * b.getD j 0 + out.getD (i + j) 0) (Int.add_nonneg m1 hgo.1) (lt_u64 m2 hgo.2)
    simp only [astrolaberef01_Mul.l1]
    rw [if_pos f1, if_pos f3, if_pos f6, if_pos f2, e4, if_pos f4, if_pos f5, e5, rd_nat, rd_nat, rd_nat, dig64 hx, dig64 hy, dig64 hgo, g1, g2, u64 (x := a.getD i 0 * b.getD j 0 + out.getD (i + j) 0 + c) s0 s1]
    rfl

theorem rMul_outer (a b : List Int) (ha : Dig a) (hb : Dig b) (hla : a.length ≤ 100000000) (hlb : b.length ≤ 100000000) :
    ∀ (d i : Nat) (out : List Int), d + i = a.length → out.length = a.length + b.length → Dig out → (∀ q, i + b.length ≤ q → out.getD q 0 = 0) → val out = val (a.take i) * val b →
      Ev (fun k => astrolaberef01_Mul.l0 k a b out i) (dg (val a * val b)) := by
  intro d
  induction d with
  | zero =>
    intro i out hd ho hdo hz hv
    have e : i = a.length := by omega
    subst e
    rw [take_all_val] at hv
    refine Ev.step (f := fun k => (astrolaberef01_Trim.f k out).bind fun t => some t) (fun k => ?_) (Ev.bind (f := fun _ t => some t) (Ev.eq (rTrim_sp hdo (by omega)) (by rw [hv])) (Ev.now _))
    simp only [astrolaberef01_Mul.l0]
    rw [if_neg (Int.lt_irrefl _)]
  | succ d ih =>
    intro i out hd ho hdo hz hv
    have hi : i < a.length := by clear hv; omega
    have e1 : d + (i + 1) = a.length := by clear hv; omega
    have h1 := rMul_inner a b ha hb i hi hla hlb (val out) (dg (val a * val b)) (fun out' ho' hdo' hz' hv' => by
      refine ih (i + 1) out' e1 ho' hdo' (fun q hq => hz' q (by clear hv hv'; omega)) ?_
      rw [hv', hv, val_take_succ, Nat.add_mul, Nat.mul_assoc]) b.length 0 out 0 (Nat.add_zero _) ho hdo hz (by decide) (by rw [take_zero_val, Nat.mul_zero, Nat.mul_zero, Int.toNat_zero, Nat.mul_zero])
    refine Ev.step (fun k => ?_) h1
    simp only [astrolaberef01_Mul.l0]
    rw [if_pos (Int.ofNat_lt.2 hi)]
    rfl

theorem rMul_sp {a b : List Int} (ha : Dig a) (hb : Dig b) (hn : a.length ≤ 100000000) (hm : b.length ≤ 100000000) :
    Ev (fun k => astrolaberef01_Mul.f k a b) (dg (val a * val b)) := by
  have h0 := rMul_outer a b ha hb hn hm a.length 0 (List.replicate (a.length + b.length) 0) (Nat.add_zero _) (by simp) (Dig_zeros _) (fun q _ => by simp [List.getD_eq_getElem?_getD, List.getElem?_replicate]; split <;> rfl) (by rw [val_zeros, take_zero_val, Nat.zero_mul])
  have hw : wrap64 ((a.length : Int) + (b.length : Int)) = ((a.length + b.length : Nat) : Int) := by rw [w64] <;> omega
  refine Ev.congr (fun k => ?_) h0
  unfold astrolaberef01_Mul.f
  rw [hw, if_pos (Int.natCast_nonneg _), if_pos (by omega)]
  rfl

theorem rCmp_loop (a b : List Int) (ha : Dig a) (hb : Dig b) : ∀ m : Nat, m ≤ 1000000000 → val a / 4294967296 ^ m = val b / 4294967296 ^ m → Ev (fun k => astrolaberef01_Cmp.l0 k a b ((m : Int) - 1)) (cmp (val a) (val b)) := by
  intro m
  induction m with
  | zero =>
    intro _ he
    rw [Nat.pow_zero, Nat.div_one, Nat.div_one] at he
    refine Ev.step (f := fun _ => some 0) (fun k => ?_) (Ev.eq (Ev.now _) (by unfold cmp; rw [if_neg (by omega), if_pos he]))
    simp only [astrolaberef01_Cmp.l0]
    rw [if_neg (by decide)]
  | succ m ih =>
    intro hm he
    have e0 : ((m + 1 : Nat) : Int) - 1 = (m : Int) := by clear he; omega
    have e1 : wrap64 ((m : Int) - 1) = (m : Int) - 1 := by clear he; rw [w64] <;> omega
    have f1 : (m : Int) ≥ 0 := Int.natCast_nonneg m
    rw [e0]
    have un : ∀ k, astrolaberef01_Cmp.l0 (k + 1) a b m = if ((val a / 4294967296 ^ m % 4294967296 : Nat) : Int) < ((val b / 4294967296 ^ m % 4294967296 : Nat) : Int) then some (-1) else if ((val a / 4294967296 ^ m % 4294967296 : Nat) : Int) > ((val b / 4294967296 ^ m % 4294967296 : Nat) : Int) then some 1 else astrolaberef01_Cmp.l0 k a b ((m : Int) - 1) := by
      intro k
      rw [← getD_val ha, ← getD_val hb]
      simp only [astrolaberef01_Cmp.l0]
      rw [if_pos f1, rat_eq ha, rat_eq hb, e1]
      rfl
    have ihn := ih (by clear he; omega)
    have c1 := @cmp_digit (val a) (val b) m he
    have c2 := @cmp_digit (val b) (val a) m he.symm
    have c3 := @same_digit (val a) (val b) m he
    clear he ih e0 e1 hm
    generalize val a / 4294967296 ^ m % 4294967296 = p at un c1 c2 c3
    generalize val b / 4294967296 ^ m % 4294967296 = q at un c1 c2 c3
    by_cases h1 : p < q
    · have h := c1 h1
      refine Ev.step (f := fun _ => some (-1)) (fun k => ?_) (Ev.eq (Ev.now _) (by unfold cmp; rw [if_pos h]))
      rw [un, if_pos (Int.ofNat_lt.2 h1)]
    · by_cases h2 : q < p
      · have h := c2 h2
        refine Ev.step (f := fun _ => some 1) (fun k => ?_) (Ev.eq (Ev.now _) (by unfold cmp; rw [if_neg (Nat.lt_asymm h), if_neg (Nat.ne_of_gt h)]))
        rw [un, if_neg (fun h => h1 (Int.ofNat_lt.1 h)), if_pos (Int.ofNat_lt.2 h2)]
      · refine Ev.step (fun k => ?_) (ihn (c3 (Nat.le_antisymm (Nat.le_of_not_lt h2) (Nat.le_of_not_lt h1))))
        rw [un, if_neg (fun h => h1 (Int.ofNat_lt.1 h)), if_neg (fun h => h2 (Int.ofNat_lt.1 h))]

theorem rCmp_sp {a b : List Int} (ha : Dig a) (hb : Dig b) (hn : a.length ≤ 100000000) (hm : b.length ≤ 100000000) :
    Ev (fun k => astrolaberef01_Cmp.f k a b) (cmp (val a) (val b)) := by
  obtain ⟨M, hM⟩ : ∃ M, M = max a.length b.length := ⟨_, rfl⟩
  have la : a.length ≤ M := by omega
  have lb : b.length ≤ M := by omega
  have h0 := rCmp_loop a b ha hb M (by omega) (by
    rw [Nat.div_eq_of_lt (Nat.lt_of_lt_of_le (val_lt ha) (pow_le la)), Nat.div_eq_of_lt (Nat.lt_of_lt_of_le (val_lt hb) (pow_le lb))])
  refine Ev.congr (fun k => ?_) h0
  unfold astrolaberef01_Cmp.f
  have : wrap64 (mx (a.length : Int) (b.length : Int) - 1) = (M : Int) - 1 := by rw [mx_nat, ← hM, w64] <;> omega
  rw [this]

theorem val_take_mod (l : List Int) (h : Dig l) (n : Nat) : val (l.take n) = val l % 4294967296 ^ n := by
  by_cases hn : n ≤ l.length
  · have h1 := val_split l n
    rw [Nat.min_eq_left hn] at h1
    have h2 := val_lt (Dig_take h n)
    rw [List.length_take, Nat.min_eq_left hn] at h2
    rw [h1, Nat.add_mul_mod_self_left, Nat.mod_eq_of_lt h2]
  · rw [take_ge_val l (by omega), Nat.mod_eq_of_lt (Nat.lt_of_lt_of_le (val_lt h) (pow_le (by omega)))]

theorem sub_alg {vo w x y a b c lo hi : Nat} (hv : vo + y = x + w * c) (hs : lo + b + c = a + 4294967296 * hi) : vo + w * lo + (y + w * b) = x + w * a + w * (4294967296 * hi) := by
  have h1 : w * lo + w * b + w * c = w * a + w * (4294967296 * hi) := by rw [← Nat.mul_add, ← Nat.mul_add, hs, Nat.mul_add]
  omega

theorem rSub_loop (a b : List Int) (ha : Dig a) (hb : Dig b) (hn : a.length ≤ 100000000) (hle : val b ≤ val a) :
    ∀ (d i : Nat) (out : List Int) (c : Nat), d + i = a.length → out.length = i → Dig out → c ≤ 1 → val out + val (b.take i) = val (a.take i) + 4294967296 ^ i * c →
      Ev (fun k => astrolaberef01_Sub.l0 k a b out c i) (dg (val a - val b), true) := by
  intro d
  induction d with
  | zero =>
    intro i out c hd ho hdo hc hv
    have e : i = a.length := by omega
    subst e
    have hbl : val (b.take a.length) = val b := by
      rw [val_take_mod b hb, Nat.mod_eq_of_lt (Nat.lt_of_le_of_lt hle (val_lt ha))]
    rw [take_all_val, hbl] at hv
    have hob := val_lt hdo
    rw [ho] at hob
    have hs : val a - val b = val out := by
      rcases (show c = 0 ∨ c = 1 by clear hv hob; omega) with rfl | rfl
      · rw [Nat.mul_zero, Nat.add_zero] at hv; clear hob; omega
      · exfalso
        rw [Nat.mul_one] at hv
        generalize 4294967296 ^ a.length = p at hv hob
        omega
    rw [hs]
    clear hv hob hs hbl
    refine Ev.step (f := fun k => (astrolaberef01_Trim.f k out).bind fun t => some (t, true)) (fun k => ?_) (Ev.bind (f := fun _ t => some (t, true)) (rTrim_sp hdo (by omega)) (Ev.now _))
    simp only [astrolaberef01_Sub.l0]
    rw [if_neg (Int.lt_irrefl _)]
  | succ d ih =>
    intro i out c hd ho hdo hc hv
    have hx := Dig_getD ha i
    have hy := Dig_getD hb i
    have f1 : (i : Int) < (a.length : Int) := by clear hv; omega
    have f2 : out.length < 35184372088832 := by clear hv; omega
    have f3 : d + (i + 1) = a.length := by clear hv; omega
    have t5 : wrap64 ((i : Int) + 1) = (i + 1 : Nat) := by clear hv; rw [w64] <;> omega
    obtain ⟨x, hxe⟩ := Int.eq_ofNat_of_zero_le hx.1
    obtain ⟨y, hye⟩ := Int.eq_ofNat_of_zero_le hy.1
    rw [hxe] at hx
    rw [hye] at hy
    obtain ⟨s, hs⟩ : ∃ s : Nat, (s : Int) = x + 4294967296 - y - c := ⟨((x : Int) + 4294967296 - y - c).toNat, by clear hv; omega⟩
    have hsb : s < 8589934592 := by clear hv; omega
    have hm : ((s : Int) % 4294967296).toNat = s % 4294967296 := by clear hv; omega
    have g1 : IntKind.u64.wrap ((x : Int) + 4294967296) = (x : Int) + 4294967296 := by clear hv; exact u64 (by omega) (by omega)
    have g2 : IntKind.u64.wrap ((x : Int) + 4294967296 - (y : Int)) = (x : Int) + 4294967296 - (y : Int) := by clear hv; exact u64 (by omega) (by omega)
    have g3 : IntKind.u64.wrap ((x : Int) + 4294967296 - (y : Int) - (c : Int)) = (s : Int) := by rw [← hs]; clear hv; exact u64 (by omega) (by omega)
    have g4 : IntKind.u64.wrap (1 - (s : Int) / 4294967296) = ((1 - s / 4294967296 : Nat) : Int) := by
      clear hv; rw [u64] <;> omega
    have hstep : s % 4294967296 + y + c = x + 4294967296 * (1 - s / 4294967296) := by clear hv; omega
    have key : Ev (fun k => astrolaberef01_Sub.l0 k a b (out ++ [(s : Int) % 4294967296]) ((1 - s / 4294967296 : Nat) : Int) (i + 1 : Nat)) (dg (val a - val b), true) := by
      refine ih (i + 1) _ _ f3 (by rw [List.length_append, ho]; rfl) (Dig_snoc hdo (mod_bd _)) (Nat.sub_le _ _) ?_
      rw [val_snoc, hm, ho, val_take_succ, val_take_succ, hxe, hye, Int.toNat_natCast, Int.toNat_natCast, Nat.pow_succ, Nat.mul_assoc (4294967296 ^ i)]
      exact sub_alg hv hstep
    refine Ev.step (fun k => ?_) key
    clear key ih hv hstep
    simp only [astrolaberef01_Sub.l0]
    rw [if_pos f1, rat_eq ha, rat_eq hb]
    simp only [Option.bind_some]
    rw [if_pos f2, t5, hxe, hye, g1, g2, g3, g4]

theorem rSub_sp {a b : List Int} (ha : Dig a) (hb : Dig b) (hn : a.length ≤ 100000000) (hm : b.length ≤ 100000000) :
    Ev (fun k => astrolaberef01_Sub.f k a b) (if val b ≤ val a then (dg (val a - val b), true) else ([], false)) := by
  refine Ev.bind (f := fun k t => _) (rCmp_sp ha hb hn hm) ?_
  by_cases h : val b ≤ val a
  · rw [if_pos h]
    refine Ev.ifn ?_ (rSub_loop a b ha hb hn h a.length 0 [] 0 rfl rfl Dig_nil (by decide) (by rw [take_zero_val, take_zero_val]; rfl))
    unfold cmp
    rw [if_neg (by omega)]
    split <;> decide
  · rw [if_neg h]
    refine Ev.ifp ?_ (Ev.now _)
    unfold cmp
    rw [if_pos (by omega)]
    decide

end Go.Proofs.Ytmkffnhgcpdbaaa.Sp
