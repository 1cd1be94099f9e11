/- The plain law of chapter 1's calls: what the printed functions of package nat come to, in numbers. -/
import Derived.Test.YtohkjfdcmiiehaaP1
import Derived.Test.YtohkjfdcmiiehaaP2
import Derived.Test.YtohkjfdcmiiehaaP3
import Derived.Test.YtohkjfdcmiiehaaNum
namespace Go.Proofs.Ytohkjfdcmiiehaa.Sp
open Go.RowKit Go.Proofs.Ytohkjfdcmiiehaa.P Go.Proofs.Ytohkjfdcmiiehaa.Num Go.Proofs.YtohkjfdcmiiehaaW.PrintWords Go.Proofs.YtohkjfdcmiiehaaW.PrintLast Go.Proofs.YtohkjfdcmiiehaaW.PrintMore

theorem w64 {x : Int} (h0 : -9223372036854775808 ≤ x) (h1 : x < 9223372036854775808) : wrap64 x = x := by unfold wrap64; omega
theorem u64 {x : Int} (h0 : 0 ≤ x) (h1 : x < 18446744073709551616) : IntKind.u64.wrap x = x := by
  simp only [IntKind.wrap, IntKind.bits, IntKind.signed]
  simp
  omega
theorem u64m (x : Int) : IntKind.u64.wrap x = x % 18446744073709551616 := by
  simp only [IntKind.wrap, IntKind.bits, IntKind.signed]
  simp
theorem u32m (x : Int) : IntKind.u32.wrap x = x % 4294967296 := IntKind.wrap_u32 x

theorem Ev.unique {α : Type} {g : Nat → Option α} {r s : α} (h : Ev g r) (k : Ev g s) : r = s := by
  obtain ⟨K, hK⟩ := h
  obtain ⟨L, hL⟩ := k
  have a := hK (K + L) (by omega)
  have b := hL (K + L) (by omega)
  rw [a] at b
  exact Option.some.inj b

theorem Ev.eq {α : Type} {g : Nat → Option α} {r s : α} (h : Ev g r) (e : r = s) : Ev g s := e ▸ h

theorem rd_nat (l : List Int) (i : Nat) : rd l (i : Int) = l.getD i 0 := by simp [rd]

/-- The last digit falls, if it is nought. -/
theorem trim_ev : ∀ (n : Nat) (l : List Int), l.length = n → n ≤ 1000000000 → Dig l → Ev (fun k => nat_trim.f k l) (dg (val l)) := by
  intro n
  induction n with
  | zero =>
    intro l hl _ _
    have : l = [] := by cases l with
      | nil => rfl
      | cons a t => simp at hl
    subst this
    refine Ev.step (f := fun _ => some []) (fun k => ?_) (Ev.eq (Ev.now _) (by simp [val, dg_zero]))
    simp [nat_trim.f, nat_trim.l0]
  | succ n ih =>
    intro l hl hn hd
    have hw : wrap64 ((l.length : Int) - 1) = (n : Int) := by rw [w64] <;> omega
    by_cases h0 : l.getD n 0 = 0
    · have h1 := ih (l.take n) (by rw [List.length_take]; omega) (by omega) (Dig_take hd n)
      have hv : val (l.take n) = val l := by
        have := val_drop_zero l (by omega) (by rw [hl]; exact h0)
        rw [hl] at this; exact this
      rw [hv] at h1
      refine Ev.step (fun k => ?_) h1
      show nat_trim.l0 (k + 1) l = nat_trim.l0 k (l.take n)
      simp only [nat_trim.l0]
      rw [if_pos (by omega), hw, if_pos (by omega), if_pos (by omega), rd_nat, if_pos h0, if_pos (by omega)]
      rfl
    · refine Ev.step (f := fun _ => some l) (fun k => ?_) (Ev.eq (Ev.now _) (dg_val ⟨hd, .inr (by rw [hl]; exact h0)⟩).symm)
      show nat_trim.l0 (k + 1) l = some l
      simp only [nat_trim.l0]
      rw [if_pos (by omega), hw, if_pos (by omega), if_pos (by omega), rd_nat, if_neg h0]

theorem trim_sp {l : List Int} (hl : l.length ≤ 1000000000) (h : Dig l) : Ev (fun k => nat_trim.f k l) (dg (val l)) := trim_ev _ l rfl hl h

theorem dg_len {l : List Int} (h : Dig l) : (dg (val l)).length ≤ l.length := dg_length_le_of h

theorem Trim_sp {l : List Int} (hl : l.length ≤ 1000000000) (h : Dig l) : Ev (fun k => nat_Trim.f k l) (dg (val l)) := by
  refine Ev.bind (f := fun _ t => (slices_Clone_uint32_uint32.f t).bind fun t229 => some t229) (trim_sp hl h) ?_
  have := dg_len h
  refine Ev.congr (f := fun _ => some (dg (val l))) (fun k => ?_) (Ev.now _)
  unfold slices_Clone_uint32_uint32.f
  rw [if_pos (by omega)]
  rfl

theorem val_two (a b : Int) : val [a, b] = a.toNat + 4294967296 * b.toNat := by simp [val]

theorem From_sp {n : Int} (h0 : 0 ≤ n) (h1 : n < 18446744073709551616) : Ev (fun k => nat_From.f k n) (dg n.toNat) := by
  refine Ev.bind (f := fun _ t => some t) (Ev.eq (trim_sp (l := [n % 4294967296, (n / 4294967296) % 4294967296]) (by simp) ?_) ?_) (Ev.now _)
  · intro x hx; simp at hx; omega
  · rw [val_two]; congr 1; omega

theorem or64 {x y : Int} (hx : 0 ≤ x ∧ x < 4294967296) (hy : 0 ≤ y ∧ y < 4294967296) : Go.bits .or .u64 (x * 4294967296) y = x * 4294967296 + y :=
  bits_join .u64 64 (by decide) (fun n h0 h1 => u64 h0 (by omega)) 32 (x * 4294967296) y (by omega) (by omega) (by omega) hy.1 (by omega) (by omega)

/-- How many bits. -/
def bl (n : Nat) : Nat := if n = 0 then 0 else n.log2 + 1

theorem bl_le {n k : Nat} : bl n ≤ k ↔ n < 2 ^ k := by
  unfold bl
  by_cases h : n = 0
  · rw [if_pos h]; subst h; simp [Nat.two_pow_pos]
  · rw [if_neg h, Nat.succ_le_iff, Nat.log2_lt h]

theorem bl_eq {n k : Nat} (h0 : 2 ^ k ≤ n) (h1 : n < 2 ^ (k + 1)) : bl n = k + 1 := by
  have a := bl_le.2 h1
  have b : ¬ bl n ≤ k := fun h => by have := bl_le.1 h; omega
  omega

theorem bitLen_bl {n : Nat} (h : n < 2 ^ 64) : Lib.bitLen n = bl n := by
  have hh : ∀ (m n : Nat), n < 2 ^ m → m ≤ 64 → Lib.bitLen n = bl n := by
    intro m
    induction m with
    | zero => intro n h _; have : n = 0 := by omega
              subst this; decide
    | succ m ih =>
      intro n h hm
      by_cases h0 : n = 0
      · subst h0; decide
      · have h64 : n < 2 ^ 64 := Nat.lt_of_lt_of_le h (Nat.pow_le_pow_right (by omega) hm)
        rw [Lib.bitLen_half n h0 h64, ih (n / 2) (by rw [Nat.pow_succ] at h; omega) (by omega)]
        unfold bl
        rw [if_neg h0]
        by_cases h1 : n / 2 = 0
        · rw [if_pos h1]; have : n = 1 := by omega
          subst this; decide
        · rw [if_neg h1]
          have : n.log2 = (n / 2).log2 + 1 := by rw [Nat.log2_def n]; rw [if_pos (by omega)]
          omega
  exact hh 64 n h (by omega)

theorem bl_shift {n k : Nat} (h : n ≠ 0) : bl (n * 2 ^ k) = bl n + k := by
  have hb : 2 ^ (bl n - 1) ≤ n ∧ n < 2 ^ (bl n) := by
    constructor
    · apply Nat.le_of_not_lt; intro h1
      have := bl_le.2 h1
      have h2 : bl n ≠ 0 := by intro h3; have := bl_le.1 (Nat.le_of_eq h3); omega
      omega
    · exact bl_le.1 (Nat.le_refl _)
  have h2 : bl n ≠ 0 := by intro h3; have := bl_le.1 (Nat.le_of_eq h3); omega
  obtain ⟨m, hm⟩ : ∃ m, bl n = m + 1 := ⟨bl n - 1, by omega⟩
  rw [hm] at hb ⊢
  have : bl (n * 2 ^ k) = (m + k) + 1 := by
    apply bl_eq
    · rw [Nat.pow_add]; exact Nat.mul_le_mul_right _ (by simpa using hb.1)
    · rw [show m + k + 1 = (m + 1) + k by omega, Nat.pow_add]
      exact Nat.mul_lt_mul_of_pos_right hb.2 (Nat.two_pow_pos k)
  omega

/-- The bits of a list of digits are those of its first one, and 32 for each behind it. -/
theorem bl_dg {v n : Nat} (h : (dg v).length = n + 1) : bl v = 32 * n + bl (v / 4294967296 ^ n) ∧ v / 4294967296 ^ n < 4294967296 ∧ v / 4294967296 ^ n ≠ 0 := by
  have h0 := le_of_dg_length (n := v) (k := n) (by omega)
  have h1 := lt_of_dg_length (n := v) (k := n + 1) (by omega)
  have hp := pow_pos' n
  have hq : v / 4294967296 ^ n < 4294967296 := by
    rw [Nat.div_lt_iff_lt_mul hp]; rw [Nat.pow_succ] at h1; rw [Nat.mul_comm]; exact h1
  have hq0 : v / 4294967296 ^ n ≠ 0 := by
    have := Nat.div_pos h0 hp; omega
  refine ⟨?_, hq, hq0⟩
  have e32 : (4294967296 : Nat) ^ n = 2 ^ (32 * n) := by rw [Nat.pow_mul]
  generalize hx : v / 4294967296 ^ n = q at hq hq0
  have hb0 : bl q ≠ 0 := by intro h3; have := bl_le.1 (Nat.le_of_eq h3); omega
  obtain ⟨m, hm⟩ : ∃ m, bl q = m + 1 := ⟨bl q - 1, by omega⟩
  have hm0 : 2 ^ m ≤ q := by
    apply Nat.le_of_not_lt; intro h1; have := bl_le.2 h1; omega
  have hm1 : q < 2 ^ (m + 1) := bl_le.1 (by omega)
  have dm := Nat.div_add_mod v (4294967296 ^ n)
  have ml := Nat.mod_lt v hp
  rw [hx] at dm
  rw [hm]
  have : bl v = (32 * n + m) + 1 := by
    apply bl_eq
    · rw [Nat.pow_add, ← e32]
      have := Nat.mul_le_mul_left (4294967296 ^ n) hm0
      omega
    · rw [show 32 * n + m + 1 = 32 * n + (m + 1) by omega, Nat.pow_add, ← e32]
      have := Nat.mul_le_mul_left (4294967296 ^ n) (show q + 1 ≤ 2 ^ (m + 1) from hm1)
      rw [Nat.mul_add] at this
      omega
  omega

theorem Bits_sp {l : List Int} (hl : l.length ≤ 10000000) (h : Dig l) : Ev (fun k => nat_Bits.f k l) (bl (val l) : Int) := by
  have hlen := dg_len h
  refine Ev.bind (f := fun _ t => _) (trim_sp (by omega) h) (Ev.congr (f := fun _ => some (bl (val l) : Int)) (fun _ => ?_) (Ev.now _))
  generalize val l = v at hlen ⊢
  by_cases h0 : (dg v).length = 0
  · have := dg_length_zero.1 h0
    subst this
    rw [if_pos (by omega)]; rfl
  obtain ⟨n, hn⟩ : ∃ n, (dg v).length = n + 1 := ⟨(dg v).length - 1, by omega⟩
  obtain ⟨b1, b2, b3⟩ := bl_dg hn
  have hw : wrap64 (((dg v).length : Int) - 1) = (n : Int) := by rw [w64] <;> omega
  have hd : rd (dg v) (n : Int) = ((v / 4294967296 ^ n : Nat) : Int) := by rw [rd_nat, dg_getD, Nat.mod_eq_of_lt b2]
  generalize v / 4294967296 ^ n = q at b1 b2 b3 hd
  rw [if_neg (by omega), hw, if_pos (by omega), if_pos (by omega), hd]
  unfold bits_Len32.f
  rw [if_pos (by omega)]
  have hb : Lib.bitLen ((q : Nat) : Int).toNat = bl q := by
    rw [Int.toNat_natCast]; exact bitLen_bl (by omega)
  have hb32 : bl q ≤ 32 := bl_le.2 (by omega)
  simp only [Option.bind_some]
  rw [hb, b1, w64 (x := 32 * (n : Int)) (by omega) (by omega), w64 (by omega) (by omega)]
  congr 1

end Go.Proofs.Ytohkjfdcmiiehaa.Sp
