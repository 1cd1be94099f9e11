/- A digit of a quotient is guessed by the first digits, and put right. -/
import Derived.Test.YtohkjfdcmiiehaaP10
import Derived.Test.YtohkjfdcmiiehaaQb
namespace Go.Proofs.Ytohkjfdcmiiehaa.Sp
open Go.RowKit Go.Proofs.Ytohkjfdcmiiehaa.P Go.Proofs.Ytohkjfdcmiiehaa.Num Go.Proofs.YtohkjfdcmiiehaaW.PrintWords Go.Proofs.YtohkjfdcmiiehaaW.PrintLast Go.Proofs.YtohkjfdcmiiehaaW.PrintMore

theorem qbb_le {u y P : Nat} (hP : 0 < P) : u / y * (y / P) ≤ u / P := by
  rw [Nat.le_div_iff_mul_le hP, Nat.mul_assoc]
  exact Nat.le_trans (Nat.mul_le_mul_left _ (Nat.div_mul_le_self y P)) (Nat.div_mul_le_self u y)

theorem guess_le {u y P g : Nat} (hy : 0 < y) (hP : 0 < P) (h : g * (y / P) ≤ u / P) (hg : g ≤ y / P) : g ≤ u / y + 1 := by
  apply Nat.le_of_not_lt
  intro hlt
  have h1 : u < y * (u / y + 1) := Nat.lt_mul_div_succ u hy
  generalize u / y = q at hlt h1
  obtain ⟨g', rfl⟩ : ∃ g', g = g' + 1 := ⟨g - 1, by clear h1 h hg; omega⟩
  have h2 : y * (q + 1) ≤ y * g' := Nat.mul_le_mul_left _ (by clear h1 h hg; omega)
  have h3 : y < P * (y / P + 1) := Nat.lt_mul_div_succ y hP
  have h4 : y * g' ≤ P * (y / P + 1) * g' := Nat.mul_le_mul_right _ (Nat.le_of_lt h3)
  have h5 : (y / P + 1) * g' ≤ (g' + 1) * (y / P) := by
    rw [Nat.add_mul, Nat.add_mul, Nat.mul_comm g', Nat.one_mul, Nat.one_mul]
    exact Nat.add_le_add_left (Nat.le_trans (Nat.le_succ g') hg) _
  have h6 : P * ((y / P + 1) * g') ≤ P * (u / P) := Nat.mul_le_mul_left _ (Nat.le_trans h5 h)
  have h7 : P * (u / P) ≤ u := Nat.mul_div_le u P
  rw [Nat.mul_assoc] at h4
  exact Nat.lt_irrefl u (Nat.lt_of_lt_of_le h1 (Nat.le_trans h2 (Nat.le_trans h4 (Nat.le_trans h6 h7))))

/-- What the first digits of the divisor (b1, b2) and of the number (top, u2) tell of the quotient q. -/
structure Dg (q b1 b2 top u2 : Nat) : Prop where
  b1l : b1 < 4294967296
  b1g : 2147483648 ≤ b1
  b2l : b2 < 4294967296
  u2l : u2 < 4294967296
  topl : top < b1 * 4294967296 + 4294967296
  qle : q * (b1 * 4294967296 + b2) ≤ top * 4294967296 + u2
  gle : ∀ g, g < 4294967296 → g * (b1 * 4294967296 + b2) ≤ top * 4294967296 + u2 → g ≤ q + 1
  ql : q < 4294967296

theorem Dg_of {m y u : Nat} (hy : y < 4294967296 ^ (m + 2)) (hn : 2147483648 * 4294967296 ^ (m + 1) ≤ y) (hu : u < y * 4294967296) :
    Dg (u / y) (y / 4294967296 ^ (m + 1)) (y / 4294967296 ^ m % 4294967296) (u / 4294967296 ^ (m + 1)) (u / 4294967296 ^ m % 4294967296) := by
  have hp1 := pow_pos' (m + 1)
  have hp0 := pow_pos' m
  have e2 : 4294967296 ^ (m + 2) = 4294967296 ^ (m + 1) * 4294967296 := Nat.pow_succ 4294967296 (m + 1)
  rw [e2] at hy
  have hy0 : 0 < y := Nat.lt_of_lt_of_le (Nat.mul_pos (by decide) hp1) hn
  have hb1 : y / 4294967296 ^ (m + 1) < 4294967296 := Nat.div_lt_of_lt_mul hy
  have hb1g : 2147483648 ≤ y / 4294967296 ^ (m + 1) := (Nat.le_div_iff_mul_le hp1).2 hn
  have ebb := div_step y m
  have euu := div_step u m
  refine ⟨hb1, hb1g, Nat.mod_lt _ (by decide), Nat.mod_lt _ (by decide), ?_, ?_, ?_, Nat.div_lt_of_lt_mul hu⟩
  · apply Nat.div_lt_of_lt_mul
    have h1 : y < 4294967296 ^ (m + 1) * (y / 4294967296 ^ (m + 1) + 1) := Nat.lt_mul_div_succ y hp1
    have h2 := Nat.mul_lt_mul_of_pos_right h1 (show 0 < 4294967296 by decide)
    rw [Nat.mul_assoc, Nat.add_mul, Nat.one_mul] at h2
    exact Nat.lt_trans hu h2
  · rw [← ebb, ← euu]
    exact qbb_le hp0
  · intro g hg h
    rw [← ebb, ← euu] at h
    refine guess_le hy0 hp0 h ?_
    rw [ebb]
    generalize y / 4294967296 ^ (m + 1) = b1 at hb1g
    generalize y / 4294967296 ^ m % 4294967296 = b2
    clear hy hn hu e2 ebb euu h hp0 hp1 hb1
    omega

theorem guess_start {q b1 b2 top u2 : Nat} (D : Dg q b1 b2 top u2) : q ≤ top / b1 ∧ top / b1 ≤ 4294967297 ∧ top / b1 * b1 + top % b1 = top ∧ top % b1 < 4294967296 := by
  have hb : 0 < b1 := by have := D.b1g; omega
  have hm : top % b1 < 4294967296 := by
    have h1 := Nat.mod_lt top hb
    have h2 := D.b1l
    generalize top % b1 = x at h1
    omega
  refine ⟨?_, ?_, ?_, hm⟩
  · rw [Nat.le_div_iff_mul_le hb]
    have h1 := D.qle
    have h2 := D.u2l
    have h3 : q * b1 * 4294967296 ≤ q * (b1 * 4294967296 + b2) := by
      rw [Nat.mul_assoc]
      generalize b1 * 4294967296 = z
      exact Nat.mul_le_mul_left q (Nat.le_add_right z b2)
    generalize q * (b1 * 4294967296 + b2) = x at h1 h3
    generalize q * b1 = y at h3 ⊢
    omega
  · have h := D.topl
    have h2 := D.b1g
    have h3 : top < b1 * 4294967298 := by
      rw [show (4294967298 : Nat) = 4294967296 + 2 from rfl, Nat.mul_add]
      generalize b1 * 4294967296 = z at h ⊢
      omega
    have := Nat.div_lt_of_lt_mul h3
    generalize top / b1 = x at this
    omega
  · have := Nat.div_add_mod top b1
    rw [Nat.mul_comm] at this
    exact this

theorem guess_down {q b1 b2 top u2 g rest : Nat} (D : Dg q b1 b2 top u2) (hI : g * b1 + rest = top) (h : rest * 4294967296 + u2 < g * b2) : q < g := by
  have e : g * (b1 * 4294967296 + b2) = g * b1 * 4294967296 + g * b2 := by rw [Nat.mul_add, Nat.mul_assoc]
  have h1 := D.qle
  have h2 : q * (b1 * 4294967296 + b2) < g * (b1 * 4294967296 + b2) := by
    rw [e]
    generalize q * (b1 * 4294967296 + b2) = x at h1
    generalize g * b1 = z at hI
    generalize g * b2 = t at h
    omega
  exact Nat.lt_of_mul_lt_mul_right h2

theorem guess_up {q b1 b2 top u2 g rest : Nat} (D : Dg q b1 b2 top u2) (hI : g * b1 + rest = top) (hg : g < 4294967296) (h : g * b2 ≤ rest * 4294967296 + u2) : g ≤ q + 1 := by
  refine D.gle g hg ?_
  have e : g * (b1 * 4294967296 + b2) = g * b1 * 4294967296 + g * b2 := by rw [Nat.mul_add, Nat.mul_assoc]
  rw [e]
  generalize g * b1 = z at hI
  generalize g * b2 = t at h
  omega

theorem guess_big {q b1 b2 top u2 g rest : Nat} (D : Dg q b1 b2 top u2) (hI : g * b1 + rest = top) (hr : 4294967296 ≤ rest) : g < 4294967296 ∧ g ≤ q + 1 := by
  have ht := D.topl
  have hg : g < 4294967296 := by
    have : g * b1 < 4294967296 * b1 := by
      generalize g * b1 = z at hI
      omega
    exact Nat.lt_of_mul_lt_mul_right this
  refine ⟨hg, guess_up D hI hg ?_⟩
  have h1 : g * b2 ≤ 4294967296 * 4294967296 := Nat.mul_le_mul (Nat.le_of_lt hg) (Nat.le_of_lt D.b2l)
  generalize g * b2 = t at h1
  omega

theorem or64m {a b : Nat} (ha : a < 4294967296) (hb : b < 4294967296) : Go.bits .or .u64 (IntKind.u64.wrap ((a : Int) * 4294967296)) (IntKind.u64.wrap (b : Int)) = ((a * 4294967296 + b : Nat) : Int) := by
  rw [u64 (x := (b : Int)) (by omega) (by omega), u64 (by omega) (by omega), or64 (by omega) (by omega)]
  omega

/-- One less, and what follows. -/
theorem long_j2 {b Q U : List Int} {sh : Int} {n j m : Nat} {q b1 b2 top u2 : Nat} {r : List Int × List Int × Bool} (D : Dg q b1 b2 top u2) (hn : n = m + 2) (hbl : b.length = n) (hn1 : n ≤ 100000000) (e1 : b.getD (m + 1) 0 = (b1 : Int))
    (hnext : ∀ g : Nat, q ≤ g → g ≤ q + 1 → g < 4294967296 → Ev (fun k => quo_long.j3 k b Q sh n U j g) r) {g rest : Nat} (hr : rest < 4294967296) (hI : g * b1 + rest = top) (hq : q < g) (hg : g ≤ 4294967297)
    (hloop : ∀ g' rest' : Nat, rest' < 4294967296 → rest' = rest + b1 → g' * b1 + rest' = top → q ≤ g' → g' ≤ 4294967297 → Ev (fun k => quo_long.l1 k b Q sh n U j g' rest') r) :
    Ev (fun k => quo_long.j2 k b Q sh n U j g rest true) r := by
  obtain ⟨g', rfl⟩ : ∃ g', g = g' + 1 := ⟨g - 1, by omega⟩
  have hI' : g' * b1 + (rest + b1) = top := by
    rw [Nat.add_mul, Nat.one_mul] at hI
    omega
  have hb1 := D.b1l
  have w1 : wrap64 ((n : Int) - 1) = ((m + 1 : Nat) : Int) := by rw [w64] <;> omega
  have i1 : ((m + 1 : Nat) : Int) < (b.length : Int) := by omega
  have w2 : IntKind.u64.wrap ((rest : Int) + IntKind.u64.wrap (b1 : Int)) = ((rest + b1 : Nat) : Int) := by
    rw [u64 (x := (b1 : Int)) (by omega) (by omega), u64 (by omega) (by omega)]
    omega
  have w3 : IntKind.u64.wrap (((g' + 1 : Nat) : Int) - 1) = (g' : Int) := by
    rw [u64 (by omega) (by omega)]
    omega
  by_cases hb : 4294967296 ≤ rest + b1
  · obtain ⟨g1, g2⟩ := guess_big D hI' hb
    refine Ev.step (fun k => ?_) (hnext g' (by omega) g2 g1)
    simp only [quo_long.j2]
    rw [if_pos trivial, w1, if_pos (Int.natCast_nonneg _), if_pos i1, rd_nat, e1, w2, w3, if_pos (by omega)]
  · refine Ev.step (fun k => ?_) (hloop g' (rest + b1) (by omega) rfl hI' (by omega) (by omega))
    simp only [quo_long.j2]
    rw [if_pos trivial, w1, if_pos (Int.natCast_nonneg _), if_pos i1, rd_nat, e1, w2, w3, if_neg (by omega)]

theorem long_ix {n m j : Nat} (hn : n = m + 2) (hn1 : n ≤ 100000000) (hj : j ≤ 100000000) : wrap64 ((n : Int) - 2) = (m : Int) ∧ wrap64 ((j : Int) + (n : Int)) = ((j + n : Nat) : Int) ∧ wrap64 (((j + n : Nat) : Int) - 2) = ((j + m : Nat) : Int) := by
  refine ⟨?_, ?_, ?_⟩
  · rw [w64 (by omega) (by omega)]; omega
  · rw [w64 (by omega) (by omega)]; omega
  · rw [w64 (by omega) (by omega)]; omega

theorem long_l1 {b Q U : List Int} {sh : Int} {n j m : Nat} {q b1 b2 top u2 : Nat} {r : List Int × List Int × Bool} (D : Dg q b1 b2 top u2) (hn : n = m + 2) (hbl : b.length = n) (hn1 : n ≤ 100000000) (hj : j ≤ 100000000) (hU : j + n < U.length) (e1 : b.getD (m + 1) 0 = (b1 : Int)) (e2 : b.getD m 0 = (b2 : Int)) (e3 : U.getD (j + m) 0 = (u2 : Int))
    (hnext : ∀ g : Nat, q ≤ g → g ≤ q + 1 → g < 4294967296 → Ev (fun k => quo_long.j3 k b Q sh n U j g) r) :
    ∀ (d g rest : Nat), 4294967296 ≤ rest + d * 2147483648 → rest < 4294967296 → g * b1 + rest = top → q ≤ g → g ≤ 4294967297 → Ev (fun k => quo_long.l1 k b Q sh n U j g rest) r := by
  obtain ⟨w1, w0, w2⟩ := long_ix hn hn1 hj
  have i1 : (m : Int) < (b.length : Int) := by rw [hbl, hn]; exact Int.ofNat_lt.2 (Nat.lt_add_of_pos_right (by decide))
  have i2 : ((j + m : Nat) : Int) < (U.length : Int) := Int.ofNat_lt.2 (Nat.lt_of_le_of_lt (Nat.add_le_add_left (by rw [hn]; exact Nat.le_add_right _ _) j) hU)
  intro d
  induction d with
  | zero => intro g rest h1 h2; omega
  | succ d ih =>
    intro g rest hd hr hI hq hg
    have hloop : ∀ g' rest' : Nat, rest' < 4294967296 → rest' = rest + b1 → g' * b1 + rest' = top → q ≤ g' → g' ≤ 4294967297 → Ev (fun k => quo_long.l1 k b Q sh n U j g' rest') r := by
      intro g' rest' h1 h2 h3 h4 h5
      have := D.b1g
      exact ih g' rest' (by clear hI h3; omega) h1 h3 h4 h5
    have hql := D.ql
    by_cases hB : 4294967296 ≤ g
    · refine Ev.step (fun k => ?_) (long_j2 D hn hbl hn1 e1 hnext hr hI (Nat.lt_of_lt_of_le hql hB) hg hloop)
      simp only [quo_long.l1]
      rw [if_pos (show (g : Int) ≥ 4294967296 from Int.ofNat_le.2 hB)]
    · have hb2 := D.b2l
      have hu2 := D.u2l
      have hp : g * b2 ≤ 4294967296 * 4294967296 - 4294967296 := by
        have h3 : g ≤ 4294967295 := by clear hI; omega
        have h4 : b2 ≤ 4294967295 := by clear hI; omega
        have h5 : g * b2 ≤ 4294967295 * 4294967295 := Nat.mul_le_mul h3 h4
        exact Nat.le_trans h5 (by decide)
      have w3 : IntKind.u64.wrap ((g : Int) * IntKind.u64.wrap (b2 : Int)) = ((g * b2 : Nat) : Int) := by
        rw [u64 (x := (b2 : Int)) (by omega) (by omega), ← Int.natCast_mul]
        generalize g * b2 = p at hp
        rw [u64 (by omega) (by omega)]
      have hflag : (decide (((g * b2 : Nat) : Int) > ((rest * 4294967296 + u2 : Nat) : Int))) = decide (rest * 4294967296 + u2 < g * b2) := by
        generalize g * b2 = p
        generalize rest * 4294967296 + u2 = s
        by_cases h : s < p
        · rw [decide_eq_true h, decide_eq_true (Int.ofNat_lt.2 h)]
        · rw [decide_eq_false h, decide_eq_false (by omega)]
      have hstep : ∀ k, quo_long.l1 (k + 1) b Q sh n U j g rest = quo_long.j2 k b Q sh n U j g rest (decide (rest * 4294967296 + u2 < g * b2)) := by
        intro k
        simp only [quo_long.l1]
        rw [if_neg (show ¬ (g : Int) ≥ 4294967296 from fun h => hB (Int.ofNat_le.1 h)), w1, if_pos (Int.natCast_nonneg _), if_pos i1, w0, w2, if_pos (Int.natCast_nonneg _), if_pos i2, rd_nat, rd_nat, e2, e3, w3, or64m hr hu2, hflag]
      by_cases h : rest * 4294967296 + u2 < g * b2
      · refine Ev.step (fun k => ?_) (long_j2 D hn hbl hn1 e1 hnext hr hI (guess_down D hI h) hg hloop)
        rw [hstep k, decide_eq_true h]
      · refine Ev.step (f := fun k => quo_long.j2 k b Q sh n U j g rest false) (fun k => ?_) (Ev.step (fun k => ?_) (hnext g hq (guess_up D hI (Nat.lt_of_not_le hB) (Nat.le_of_not_lt h)) (Nat.lt_of_not_le hB)))
        · rw [hstep k, decide_eq_false h]
        · simp only [quo_long.j2]
          rw [if_neg (by simp)]

end Go.Proofs.Ytohkjfdcmiiehaa.Sp
