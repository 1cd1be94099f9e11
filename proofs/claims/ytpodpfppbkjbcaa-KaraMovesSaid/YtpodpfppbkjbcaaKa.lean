/- What the parts, the sums laid over one another and Karatsuba's products come to. -/
import Derived.Test.YtpodpfppbkjbcaaP1
import Derived.Test.YtpodpfppbkjbcaaP5
import Derived.Test.YtpodpfppbkjbcaaSf
import Derived.Test.YtpodpfppbkjbcaaRc
namespace Go.Proofs.Ytpodpfppbkjbcaa.Sp
open Go.RowKit Go.Proofs.Ytpodpfppbkjbcaa.P Go.Proofs.Ytpodpfppbkjbcaa.Num Go.Proofs.YtpodpfppbkjbcaaW.PrintWords Go.Proofs.YtpodpfppbkjbcaaW.PrintLast Go.Proofs.YtpodpfppbkjbcaaW.PrintMore

theorem mn_nat (a b : Nat) : mn (a : Int) (b : Int) = ((min a b : Nat) : Int) := by
  unfold mn
  split <;> omega

theorem mod_len {l : List Int} (hd : Dig l) (h : Nat) : val l % 4294967296 ^ (min h l.length) = val l % 4294967296 ^ h := by
  by_cases hh : h ≤ l.length
  · rw [Nat.min_eq_left hh]
  · rw [Nat.min_eq_right (by omega), Nat.mod_eq_of_lt (val_lt hd), Nat.mod_eq_of_lt (Nat.lt_of_lt_of_le (val_lt hd) (pow_le (by omega)))]
theorem div_len {l : List Int} (hd : Dig l) (h : Nat) : val l / 4294967296 ^ (min h l.length) = val l / 4294967296 ^ h := by
  by_cases hh : h ≤ l.length
  · rw [Nat.min_eq_left hh]
  · rw [Nat.min_eq_right (by omega), Nat.div_eq_of_lt (val_lt hd), Nat.div_eq_of_lt (Nat.lt_of_lt_of_le (val_lt hd) (pow_le (by omega)))]

theorem part_lo {l : List Int} (hd : Dig l) (hl : l.length ≤ 100000000) (h : Nat) : Ev (fun k => kara_part.f k l 0 (h : Int)) (dg (val l % 4294967296 ^ h)) := by
  have e0 : mn 0 (l.length : Int) = ((0 : Nat) : Int) := by unfold mn; split <;> omega
  have e1 := mn_nat h l.length
  have hv : val ((l.take (min h l.length)).drop 0) = val l % 4294967296 ^ h := by rw [List.drop_zero, val_take_mod l hd, mod_len hd]
  have hle : ((l.take (min h l.length)).drop 0).length ≤ 1000000000 := by rw [List.drop_zero, List.length_take]; omega
  refine Ev.congr (f := fun k => (nat_Trim.f k ((l.take (min h l.length)).drop 0)).bind fun t => some t) (fun k => ?_) (Ev.bind (f := fun _ t => some t) (Ev.eq (Trim_sp hle (Dig_drop (Dig_take hd _) _)) (by rw [hv])) (Ev.now _))
  unfold kara_part.f
  rw [e0, e1, if_pos (by omega), if_pos (by omega), if_pos (by omega), Int.toNat_natCast, Int.toNat_natCast]

theorem part_hi {l : List Int} (hd : Dig l) (hl : l.length ≤ 100000000) {h n : Nat} (hn : l.length ≤ n) : Ev (fun k => kara_part.f k l (h : Int) (n : Int)) (dg (val l / 4294967296 ^ h)) := by
  have e0 := mn_nat h l.length
  have e1 : mn (n : Int) (l.length : Int) = ((l.length : Nat) : Int) := by unfold mn; split <;> omega
  have hv : val ((l.take l.length).drop (min h l.length)) = val l / 4294967296 ^ h := by rw [List.take_length, val_drop l hd, div_len hd]
  have hle : ((l.take l.length).drop (min h l.length)).length ≤ 1000000000 := by rw [List.take_length, List.length_drop]; omega
  refine Ev.congr (f := fun k => (nat_Trim.f k ((l.take l.length).drop (min h l.length))).bind fun t => some t) (fun k => ?_) (Ev.bind (f := fun _ t => some t) (Ev.eq (Trim_sp hle (Dig_drop (Dig_take hd _) _)) (by rw [hv])) (Ev.now _))
  unfold kara_part.f
  rw [e0, e1, if_pos (by omega), if_pos (by omega), if_pos (by omega), Int.toNat_natCast, Int.toNat_natCast]

theorem val_take_le {a : List Int} (n : Nat) : val (a.take n) ≤ val a := by
  rw [val_split a n]; exact Nat.le_add_right _ _

theorem carry_one {y o c : Int} (hy : 0 ≤ y ∧ y < 4294967296) (ho : 0 ≤ o ∧ o < 4294967296) (hc : 0 ≤ c ∧ c ≤ 1) : 0 ≤ (1 * y + o + c) / 4294967296 ∧ (1 * y + o + c) / 4294967296 ≤ 1 := by omega

theorem kadd_loop {a : List Int} (ha : Dig a) (hla : a.length ≤ 100000000) {s L V : Nat} (hL : L ≤ 100000000) (hfit : V + 4294967296 ^ s * val a < 4294967296 ^ L) (hs : s ≤ L) :
    ∀ (d j : Nat) (out : List Int) (c : Int), d + (s + j) = L → out.length = L → Dig out → 0 ≤ c ∧ c ≤ 1 → val out + 4294967296 ^ (s + j) * c.toNat = V + 4294967296 ^ s * val (a.take j) →
      ∃ R, Ev (fun k => kara_add.l0 k out a (s : Int) c ((s + j : Nat) : Int)) R ∧ R.length = L ∧ Dig R ∧ val R = V + 4294967296 ^ s * val a := by
  intro d
  induction d with
  | zero =>
    intro j out c hd ho hdo hc hv
    have hsj : s + j = L := by omega
    have hva : val a < 4294967296 ^ j := by
      have h1 : 4294967296 ^ s * val a < 4294967296 ^ s * 4294967296 ^ j := by rw [← Nat.pow_add, hsj]; omega
      exact Nat.lt_of_mul_lt_mul_left h1
    have ht : val (a.take j) = val a := by rw [val_take_mod a ha, Nat.mod_eq_of_lt hva]
    rw [ht, hsj] at hv
    have hc0 : c.toNat = 0 := by
      rcases Nat.eq_zero_or_pos c.toNat with h | h
      · exact h
      · have := Nat.mul_le_mul_left (4294967296 ^ L) h
        omega
    rw [hc0, Nat.mul_zero, Nat.add_zero] at hv
    refine ⟨out, ?_, ho, hdo, hv⟩
    refine Ev.step (f := fun k => kara_add.j1 k out a s c ((s + j : Nat) : Int) false) (fun k => ?_) (Ev.step (f := fun _ => some out) (fun k => ?_) (Ev.now _))
    · simp only [kara_add.l0]
      rw [if_neg (by omega)]
    · simp only [kara_add.j1]
      rfl
  | succ d ih =>
    intro j out c hd ho hdo hc hv
    have hi : s + j < out.length := by omega
    have f1 : ((s + j : Nat) : Int) < (out.length : Int) := by omega
    have f2 : (0 : Int) ≤ ((s + j : Nat) : Int) := Int.natCast_nonneg _
    have e1 : wrap64 (((s + j : Nat) : Int) - (s : Int)) = (j : Int) := by rw [w64] <;> omega
    have e2 : wrap64 (((s + j : Nat) : Int) + 1) = ((s + (j + 1) : Nat) : Int) := by rw [w64] <;> omega
    have ho0 := Dig_getD hdo (s + j)
    by_cases hj : j < a.length
    · have hy := Dig_getD ha j
      have hm := mul_step (x := 1) (y := a.getD j 0) (c := c) V (val (a.take j)) hdo hi (by decide) hy ⟨hc.1, by omega⟩ hv
      have hX : val (a.take j) + 4294967296 ^ j * ((1 : Int).toNat * (a.getD j 0).toNat) = val (a.take (j + 1)) := by
        rw [val_take_succ, show (1 : Int).toNat = 1 from rfl, Nat.one_mul]
      rw [hX] at hm
      have hco := carry_one hy ho0 hc
      have eS : IntKind.u64.wrap (IntKind.u64.wrap (IntKind.u64.wrap (out.getD (s + j) 0) + c) + IntKind.u64.wrap (a.getD j 0)) = 1 * a.getD j 0 + out.getD (s + j) 0 + c := by
        rw [dig64 ho0, dig64 hy, u64 (x := out.getD (s + j) 0 + c) (by omega) (by omega), u64 (by omega) (by omega)]
        omega
      obtain ⟨R, hR, h1, h2, h3⟩ := ih (j + 1) (out.set (s + j) ((1 * a.getD j 0 + out.getD (s + j) 0 + c) % 4294967296)) ((1 * a.getD j 0 + out.getD (s + j) 0 + c) / 4294967296) (by omega) (by rw [List.length_set]; exact ho) (Dig_set hdo _ (mod_bd _)) hco hm.2.2
      refine ⟨R, ?_, h1, h2, h3⟩
      refine Ev.step (f := fun k => kara_add.j1 k out a s c ((s + j : Nat) : Int) true) (fun k => ?_) (Ev.step (fun k => ?_) hR)
      · simp only [kara_add.l0]
        rw [if_pos f1, e1, if_pos (by omega)]
      · simp only [kara_add.j1]
        rw [if_pos trivial, if_pos f2, if_pos f1, e1, if_pos (by omega), if_pos (Int.natCast_nonneg _), rd_nat, rd_nat, eS, e2, Int.toNat_natCast]
    · have ht : val (a.take j) = val a := take_ge_val a (by omega)
      by_cases hc1 : c = 0
      · subst hc1
        rw [show (0 : Int).toNat = 0 from rfl, Nat.mul_zero, Nat.add_zero, ht] at hv
        refine ⟨out, ?_, ho, hdo, hv⟩
        refine Ev.step (f := fun k => kara_add.j1 k out a s 0 ((s + j : Nat) : Int) false) (fun k => ?_) (Ev.step (f := fun _ => some out) (fun k => ?_) (Ev.now _))
        · simp only [kara_add.l0]
          rw [if_pos f1, e1, if_neg (by omega)]
          rfl
        · simp only [kara_add.j1]
          rfl
      · have hm := mul_step (x := 1) (y := 0) (c := c) V (val (a.take j)) hdo hi (by decide) (by decide) ⟨hc.1, by omega⟩ hv
        have hX : val (a.take j) + 4294967296 ^ j * ((1 : Int).toNat * (0 : Int).toNat) = val (a.take (j + 1)) := by
          rw [show (0 : Int).toNat = 0 from rfl, Nat.mul_zero, Nat.mul_zero, Nat.add_zero, ht, take_ge_val a (by omega)]
        rw [hX] at hm
        have hco := carry_one (y := 0) (by decide) ho0 hc
        have eS : IntKind.u64.wrap (IntKind.u64.wrap (out.getD (s + j) 0) + c) = 1 * 0 + out.getD (s + j) 0 + c := by
          rw [dig64 ho0, u64 (by omega) (by omega)]
          omega
        obtain ⟨R, hR, h1, h2, h3⟩ := ih (j + 1) (out.set (s + j) ((1 * 0 + out.getD (s + j) 0 + c) % 4294967296)) ((1 * 0 + out.getD (s + j) 0 + c) / 4294967296) (by omega) (by rw [List.length_set]; exact ho) (Dig_set hdo _ (mod_bd _)) hco hm.2.2
        refine ⟨R, ?_, h1, h2, h3⟩
        refine Ev.step (f := fun k => kara_add.j1 k out a s c ((s + j : Nat) : Int) true) (fun k => ?_) (Ev.step (fun k => ?_) hR)
        · simp only [kara_add.l0]
          rw [if_pos f1, e1, if_neg (by omega), decide_eq_true (show c > 0 by omega)]
        · simp only [kara_add.j1]
          rw [if_pos trivial, if_pos f2, if_pos f1, e1, if_neg (by omega), rd_nat, eS, e2, Int.toNat_natCast]

theorem kadd_sp {a out : List Int} (ha : Dig a) (hdo : Dig out) (hla : a.length ≤ 100000000) {s L : Nat} (hlo : out.length = L) (hL : L ≤ 100000000) (hs : s ≤ L) (hfit : val out + 4294967296 ^ s * val a < 4294967296 ^ L) :
    ∃ R, Ev (fun k => kara_add.f k out a (s : Int)) R ∧ R.length = L ∧ Dig R ∧ val R = val out + 4294967296 ^ s * val a :=
  kadd_loop ha hla hL hfit hs (L - s) 0 out 0 (by omega) hlo hdo (by decide) (by rw [take_zero_val, show (0 : Int).toNat = 0 from rfl, Nat.mul_zero, Nat.mul_zero])

end Go.Proofs.Ytpodpfppbkjbcaa.Sp
