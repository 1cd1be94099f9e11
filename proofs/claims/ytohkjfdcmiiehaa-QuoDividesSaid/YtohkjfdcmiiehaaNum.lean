/- Plain numbers: lists of digits to the base 2^32, the least first, and what they are worth. No program is in sight. -/
import Derived.Lib.BitFns
namespace Go.Proofs.Ytohkjfdcmiiehaa.Num

/-- What a list of digits is worth. -/
def val : List Int → Nat
  | [] => 0
  | d :: l => d.toNat + 4294967296 * val l

/-- Every digit is one of 32 bits. -/
def Dig (l : List Int) : Prop := ∀ x ∈ l, 0 ≤ x ∧ x < 4294967296

instance (l : List Int) : Decidable (Dig l) := by unfold Dig; infer_instance

/-- The digits of a number, without a nought ahead. -/
def dg (n : Nat) : List Int := if _h : n = 0 then [] else ((n % 4294967296 : Nat) : Int) :: dg (n / 4294967296)
  decreasing_by omega

theorem dg_zero : dg 0 = [] := by rw [dg]; simp
theorem dg_pos {n : Nat} (h : n ≠ 0) : dg n = ((n % 4294967296 : Nat) : Int) :: dg (n / 4294967296) := by rw [dg]; simp [h]

theorem val_nil : val [] = 0 := rfl
theorem val_cons (d : Int) (l : List Int) : val (d :: l) = d.toNat + 4294967296 * val l := rfl

theorem val_dg (n : Nat) : val (dg n) = n := by
  induction n using Nat.strongRecOn with
  | _ n ih =>
    by_cases h : n = 0
    · subst h; rw [dg_zero]; rfl
    · rw [dg_pos h, val_cons, ih (n / 4294967296) (by omega)]; omega

theorem Dig_nil : Dig [] := by intro x h; simp at h
theorem Dig_cons {d : Int} {l : List Int} : Dig (d :: l) ↔ (0 ≤ d ∧ d < 4294967296) ∧ Dig l := by
  unfold Dig; simp

theorem Dig_dg (n : Nat) : Dig (dg n) := by
  induction n using Nat.strongRecOn with
  | _ n ih =>
    by_cases h : n = 0
    · subst h; rw [dg_zero]; exact Dig_nil
    · rw [dg_pos h]; exact Dig_cons.2 ⟨by omega, ih _ (by omega)⟩

theorem dg_inj {m n : Nat} (h : dg m = dg n) : m = n := by rw [← val_dg m, ← val_dg n, h]

theorem Dig_append {a b : List Int} : Dig (a ++ b) ↔ Dig a ∧ Dig b := by
  unfold Dig; simp only [List.mem_append]
  constructor
  · intro h; exact ⟨fun x hx => h x (.inl hx), fun x hx => h x (.inr hx)⟩
  · rintro ⟨h1, h2⟩ x (hx | hx)
    · exact h1 x hx
    · exact h2 x hx

theorem Dig_take {a : List Int} (h : Dig a) (n : Nat) : Dig (a.take n) := fun x hx => h x (List.mem_of_mem_take hx)
theorem Dig_drop {a : List Int} (h : Dig a) (n : Nat) : Dig (a.drop n) := fun x hx => h x (List.mem_of_mem_drop hx)
theorem Dig_set {a : List Int} (h : Dig a) (i : Nat) {v : Int} (hv : 0 ≤ v ∧ v < 4294967296) : Dig (a.set i v) := by
  intro x hx
  rcases List.mem_or_eq_of_mem_set hx with hx | hx
  · exact h x hx
  · rw [hx]; exact hv
theorem Dig_zeros (n : Nat) : Dig (List.replicate n 0) := by
  intro x hx; rw [List.eq_of_mem_replicate hx]; omega
theorem getD_lt (a : List Int) {i : Nat} (h : i < a.length) : a.getD i 0 = a[i] := by simp [List.getD, h]
theorem getD_ge (a : List Int) {i : Nat} (h : a.length ≤ i) : a.getD i 0 = 0 := by simp [List.getD, h]
theorem Dig_getD {a : List Int} (h : Dig a) (i : Nat) : 0 ≤ a.getD i 0 ∧ a.getD i 0 < 4294967296 := by
  by_cases hi : i < a.length
  · rw [getD_lt a hi]; exact h _ (List.getElem_mem hi)
  · rw [getD_ge a (by omega)]; omega

theorem val_append (a b : List Int) : val (a ++ b) = val a + 4294967296 ^ a.length * val b := by
  induction a with
  | nil => simp [val]
  | cons d l ih => simp only [List.cons_append, val_cons, ih, List.length_cons, Nat.pow_succ]; grind

theorem val_zeros (n : Nat) : val (List.replicate n 0) = 0 := by
  induction n with
  | zero => rfl
  | succ n ih => rw [List.replicate_succ, val_cons, ih]; rfl

theorem pow_pos' (n : Nat) : 0 < 4294967296 ^ n := Nat.pow_pos (by omega)

theorem val_lt {a : List Int} (h : Dig a) : val a < 4294967296 ^ a.length := by
  induction a with
  | nil => simp [val]
  | cons d l ih =>
    obtain ⟨hd, hl⟩ := Dig_cons.1 h
    have := ih hl
    rw [val_cons, List.length_cons, Nat.pow_succ]
    have : 4294967296 * (val l + 1) ≤ 4294967296 * 4294967296 ^ l.length := Nat.mul_le_mul_left _ this
    omega

theorem val_split (a : List Int) (i : Nat) : val a = val (a.take i) + 4294967296 ^ min i a.length * val (a.drop i) := by
  have h := val_append (a.take i) (a.drop i)
  rw [List.take_append_drop, List.length_take] at h
  exact h

theorem val_take_succ (a : List Int) (i : Nat) : val (a.take (i + 1)) = val (a.take i) + 4294967296 ^ i * (a.getD i 0).toNat := by
  by_cases h : i < a.length
  · rw [List.take_succ_eq_append_getElem h, val_append, List.length_take, Nat.min_eq_left (by omega), getD_lt a h]
    simp [val]
  · rw [getD_ge a (by omega), List.take_of_length_le (by omega), List.take_of_length_le (by omega)]; simp

theorem val_set (a : List Int) (i : Nat) (v : Int) (h : i < a.length) : val (a.set i v) + 4294967296 ^ i * (a.getD i 0).toNat = val a + 4294967296 ^ i * v.toNat := by
  induction a generalizing i with
  | nil => simp at h
  | cons d l ih =>
    cases i with
    | zero => simp [val_cons]; omega
    | succ i =>
      have hi : i < l.length := by simpa using h
      have := ih i hi
      simp only [List.set_cons_succ, val_cons, List.getD_cons_succ, Nat.pow_succ]
      grind

/-- No nought ahead. -/
def Short (l : List Int) : Prop := Dig l ∧ (l = [] ∨ l.getD (l.length - 1) 0 ≠ 0)

instance (l : List Int) : Decidable (Short l) := by unfold Short; infer_instance

theorem dg_val {l : List Int} (h : Short l) : dg (val l) = l := by
  induction l with
  | nil => simp [val, dg_zero]
  | cons d l ih =>
    obtain ⟨hd, hl⟩ := h
    obtain ⟨hd0, hd1⟩ := Dig_cons.1 hd
    have hl' : (d :: l).getD l.length 0 ≠ 0 := by
      rcases hl with hl | hl
      · cases hl
      · simpa using hl
    have hs : Short l := by
      refine ⟨hd1, ?_⟩
      cases l with
      | nil => exact .inl rfl
      | cons e m => exact .inr (by simpa using hl')
    have hv : val (d :: l) ≠ 0 := by
      rw [val_cons]
      cases l with
      | nil => simp at hl'; simp [val]; omega
      | cons e m =>
        have : val (e :: m) ≠ 0 := by
          intro h0; have := ih hs; rw [h0, dg_zero] at this; cases this
        omega
    rw [dg_pos hv, val_cons]
    have e1 : (d.toNat + 4294967296 * val l) % 4294967296 = d.toNat := by omega
    have e2 : (d.toNat + 4294967296 * val l) / 4294967296 = val l := by omega
    rw [e1, e2, ih hs]
    congr 1
    omega

theorem Short_dg (n : Nat) : Short (dg n) := by
  refine ⟨Dig_dg n, ?_⟩
  induction n using Nat.strongRecOn with
  | _ n ih =>
    by_cases h : n = 0
    · subst h; rw [dg_zero]; exact .inl rfl
    · right
      rw [dg_pos h]
      rcases ih (n / 4294967296) (by omega) with h1 | h1
      · have h0 : n / 4294967296 = 0 := by have := congrArg val h1; rw [val_dg] at this; simpa [val] using this
        rw [h1]; simp; omega
      · by_cases h0 : n / 4294967296 = 0
        · rw [h0, dg_zero] at h1; simp at h1
        · have hp : 0 < (dg (n / 4294967296)).length := by rw [dg_pos h0]; simp
          obtain ⟨m, hm⟩ : ∃ m, (dg (n / 4294967296)).length = m + 1 := ⟨_, (Nat.succ_pred_eq_of_pos hp).symm⟩
          rw [hm] at h1
          simp only [List.length_cons, hm, Nat.add_sub_cancel] at h1 ⊢
          rw [List.getD_cons_succ]
          exact h1

theorem dg_length_le {n k : Nat} (h : n < 4294967296 ^ k) : (dg n).length ≤ k := by
  induction k generalizing n with
  | zero => have : n = 0 := by simpa using h
            subst this; simp [dg_zero]
  | succ k ih =>
    by_cases h0 : n = 0
    · subst h0; simp [dg_zero]
    · rw [dg_pos h0, List.length_cons]
      have := ih (n := n / 4294967296) (by rw [Nat.pow_succ] at h; omega)
      omega

theorem lt_of_dg_length {n k : Nat} (h : (dg n).length ≤ k) : n < 4294967296 ^ k := by
  have := val_lt (Dig_dg n)
  rw [val_dg] at this
  exact Nat.lt_of_lt_of_le this (Nat.pow_le_pow_right (by omega) h)

theorem le_of_dg_length {n k : Nat} (h : k + 1 ≤ (dg n).length) : 4294967296 ^ k ≤ n := by
  apply Nat.le_of_not_lt
  intro h1
  have := dg_length_le h1
  omega

theorem dg_length_le_of {l : List Int} (h : Dig l) : (dg (val l)).length ≤ l.length := dg_length_le (val_lt h)

theorem dg_eq_nil {n : Nat} : dg n = [] ↔ n = 0 := by
  constructor
  · intro h; have := congrArg val h; rw [val_dg] at this; simpa [val] using this
  · intro h; rw [h, dg_zero]

theorem dg_length_zero {n : Nat} : (dg n).length = 0 ↔ n = 0 := by
  rw [List.length_eq_zero_iff, dg_eq_nil]

theorem dg_one {d : Nat} (h0 : d ≠ 0) (h : d < 4294967296) : dg d = [(d : Int)] := by
  rw [dg_pos h0, Nat.mod_eq_of_lt h, Nat.div_eq_of_lt h, dg_zero]

/-- A last nought may go. -/
theorem val_drop_zero (l : List Int) (h : 0 < l.length) (h0 : l.getD (l.length - 1) 0 = 0) : val (l.take (l.length - 1)) = val l := by
  have h1 := val_take_succ l (l.length - 1)
  rw [h0, show l.length - 1 + 1 = l.length by omega, List.take_length] at h1
  simpa using h1.symm

theorem val_zero_of {l : List Int} (h : ∀ i, i < l.length → l.getD i 0 = 0) : val l = 0 := by
  induction l with
  | nil => rfl
  | cons d l ih =>
    rw [val_cons, ih (fun i hi => by have := h (i + 1) (by simpa using hi); simpa using this)]
    have := h 0 (by simp)
    simp at this
    rw [this]; rfl

theorem val_inj {a b : List Int} (ha : Dig a) (hb : Dig b) (hl : a.length = b.length) (h : val a = val b) : a = b := by
  induction a generalizing b with
  | nil => cases b with
    | nil => rfl
    | cons e m => simp at hl
  | cons d l ih =>
    cases b with
    | nil => simp at hl
    | cons e m =>
      obtain ⟨h1, h2⟩ := Dig_cons.1 ha
      obtain ⟨h3, h4⟩ := Dig_cons.1 hb
      rw [val_cons, val_cons] at h
      have e1 : d.toNat = e.toNat := by omega
      have e2 : val l = val m := by omega
      rw [ih h2 h4 (by simpa using hl) e2]
      congr 1
      omega

theorem getD_set (l : List Int) (i j : Nat) (v : Int) : (l.set i v).getD j 0 = if i = j ∧ i < l.length then v else l.getD j 0 := by
  simp only [List.getD_eq_getElem?_getD, List.getElem?_set]
  by_cases h : i = j
  · subst h
    by_cases h2 : i < l.length <;> simp [h2]
  · simp [h]

theorem val_take_set (l : List Int) (i : Nat) (v : Int) (h : i < l.length) : val ((l.set i v).take (i + 1)) = val (l.take i) + 4294967296 ^ i * v.toNat := by
  rw [val_take_succ, getD_set, if_pos ⟨rfl, h⟩, List.take_set_of_le (by omega)]

theorem take_zero_val (l : List Int) : val (l.take 0) = 0 := by simp [val]
theorem take_all_val (l : List Int) : val (l.take l.length) = val l := by rw [List.take_length]
theorem take_ge_val (l : List Int) {i : Nat} (h : l.length ≤ i) : val (l.take i) = val l := by rw [List.take_of_length_le h]

/-- Digit i of a number. -/
theorem getD_val {l : List Int} (h : Dig l) (i : Nat) : l.getD i 0 = ((val l / 4294967296 ^ i % 4294967296 : Nat) : Int) := by
  induction l generalizing i with
  | nil => simp [val]
  | cons d l ih =>
    obtain ⟨h1, h2⟩ := Dig_cons.1 h
    cases i with
    | zero => simp [val_cons]; omega
    | succ i =>
      rw [List.getD_cons_succ, ih h2 i, val_cons, Nat.pow_succ, Nat.mul_comm (4294967296 ^ i), ← Nat.div_div_eq_div_mul]
      have e : (d.toNat + 4294967296 * val l) / 4294967296 = val l := by omega
      rw [e]

theorem dg_getD (n i : Nat) : (dg n).getD i 0 = ((n / 4294967296 ^ i % 4294967296 : Nat) : Int) := by
  rw [getD_val (Dig_dg n), val_dg]

/-- One digit of a sum. -/
theorem add_step {x y c : Int} (hx : 0 ≤ x) (hy : 0 ≤ y) (hc : 0 ≤ c) : ((x + y + c) % 4294967296).toNat + 4294967296 * ((x + y + c) / 4294967296).toNat = x.toNat + y.toNat + c.toNat := by omega

theorem mul_le {x y : Int} (hx : 0 ≤ x ∧ x < 4294967296) (hy : 0 ≤ y ∧ y < 4294967296) : 0 ≤ x * y ∧ x * y ≤ 18446744065119617025 := by
  refine ⟨Int.mul_nonneg hx.1 hy.1, ?_⟩
  have := Int.mul_le_mul (a := x) (b := y) (c := 4294967295) (d := 4294967295) (by omega) (by omega) hy.1 (by omega)
  omega

end Go.Proofs.Ytohkjfdcmiiehaa.Num
