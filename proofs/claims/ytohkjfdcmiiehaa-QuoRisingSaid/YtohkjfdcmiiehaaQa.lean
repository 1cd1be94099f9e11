/- Division by one digit. -/
import Derived.Test.YtohkjfdcmiiehaaP1
import Derived.Test.YtohkjfdcmiiehaaP8
import Derived.Test.YtohkjfdcmiiehaaSf
namespace Go.Proofs.Ytohkjfdcmiiehaa.Sp
open Go.RowKit Go.Proofs.Ytohkjfdcmiiehaa.P Go.Proofs.Ytohkjfdcmiiehaa.Num Go.Proofs.YtohkjfdcmiiehaaW.PrintWords Go.Proofs.YtohkjfdcmiiehaaW.PrintLast Go.Proofs.YtohkjfdcmiiehaaW.PrintMore

theorem tdivn (a b : Nat) : Int.tdiv (a : Int) (b : Int) = ((a / b : Nat) : Int) := rfl
theorem tmodn (a b : Nat) : Int.tmod (a : Int) (b : Int) = ((a % b : Nat) : Int) := rfl

theorem or64n {a b : Nat} (ha : a < 4294967296) (hb : b < 4294967296) : Go.bits .or .u64 (IntKind.u64.wrap (IntKind.u64.wrap (a : Int) * 4294967296)) (IntKind.u64.wrap (b : Int)) = ((a * 4294967296 + b : Nat) : Int) := by
  rw [u64 (x := (a : Int)) (by omega) (by omega), u64 (x := (b : Int)) (by omega) (by omega), u64 (by omega) (by omega), or64 (by omega) (by omega)]
  omega

theorem div_lt_base {x l d : Nat} (hx : x < d) (hl : l < 4294967296) : (x * 4294967296 + l) / d < 4294967296 := by
  apply Nat.div_lt_of_lt_mul
  have := Nat.mul_le_mul_right 4294967296 (show x + 1 ≤ d from hx)
  omega

theorem Div32_eq {x l d : Nat} (hd : d < 4294967296) (hx : x < d) (hl : l < 4294967296) :
    bits_Div32.f (x : Int) (l : Int) (d : Int) = some ((((x * 4294967296 + l) / d : Nat) : Int), (((x * 4294967296 + l) % d : Nat) : Int)) := by
  have hq := div_lt_base hx hl
  have hr : (x * 4294967296 + l) % d < 4294967296 := Nat.lt_trans (Nat.mod_lt _ (by omega)) hd
  unfold bits_Div32.f
  rw [if_neg (by omega), if_neg (by omega), or64n (by omega) hl, u64 (x := (d : Int)) (by omega) (by omega), if_neg (by omega), tdivn, tmodn]
  generalize (x * 4294967296 + l) / d = q at hq ⊢
  generalize (x * 4294967296 + l) % d = r at hr ⊢
  rw [u64 (by omega) (by omega)]
  congr 2
  · omega
  · omega

theorem short_digit {X l d : Nat} (hd : 0 < d) (hl : l < 4294967296) : (X % d * 4294967296 + l) / d = (X * 4294967296 + l) / d % 4294967296 ∧ (X % d * 4294967296 + l) % d = (X * 4294967296 + l) % d := by
  have e : X * 4294967296 + l = d * (X / d * 4294967296) + (X % d * 4294967296 + l) := by
    have h := Nat.div_add_mod X d
    have : d * (X / d * 4294967296) + X % d * 4294967296 = (d * (X / d) + X % d) * 4294967296 := by rw [Nat.add_mul, Nat.mul_assoc]
    rw [← Nat.add_assoc, this, h]
  have hq := div_lt_base (Nat.mod_lt X hd) hl
  rw [e]
  constructor
  · rw [Nat.mul_add_div hd]
    clear e
    generalize (X % d * 4294967296 + l) / d = q at hq ⊢
    generalize X / d = Y
    omega
  · rw [Nat.mul_add_mod]

theorem Dig_of {l : List Int} (h : ∀ j, j < l.length → 0 ≤ l.getD j 0 ∧ l.getD j 0 < 4294967296) : Dig l := by
  intro x hx
  obtain ⟨j, hj, rfl⟩ := List.mem_iff_getElem.1 hx
  have := h j hj
  rw [getD_lt l hj] at this
  exact this

theorem nat_mod_bd (n : Nat) : 0 ≤ ((n % 4294967296 : Nat) : Int) ∧ ((n % 4294967296 : Nat) : Int) < 4294967296 := by omega

theorem short_loop {a : List Int} (ha : Dig a) {d : Nat} (hd0 : 0 < d) (hd : d < 4294967296) (hn : a.length ≤ 100000000) :
    ∀ (m i : Nat) (q : List Int), m + i = a.length → q.length = a.length → (∀ j, m ≤ j → j < a.length → q.getD j 0 = ((val a / d / 4294967296 ^ j % 4294967296 : Nat) : Int)) →
      Ev (fun k => quo_short.l0 k a (d : Int) q ((val a / 4294967296 ^ m % d : Nat) : Int) (a.length : Int) (i : Int)) (dg (val a / d), dg (val a % d), true) := by
  intro m
  induction m with
  | zero =>
    intro i q hi hq hdig
    have e : i = a.length := by omega
    subst e
    have hdq : Dig q := Dig_of (fun j hj => by rw [hdig j (Nat.zero_le _) (by omega)]; exact nat_mod_bd _)
    have hv : val q = val a / d := by
      rw [val_of_digits (val a / d) q (fun j hj => hdig j (Nat.zero_le _) (by omega)), hq]
      exact Nat.mod_eq_of_lt (Nat.lt_of_le_of_lt (Nat.div_le_self _ _) (val_lt ha))
    have hr : val a % d < d := Nat.mod_lt _ hd0
    rw [Nat.pow_zero, Nat.div_one]
    have hT : Ev (fun k => nat_Trim.f k q) (dg (val a / d)) := Ev.eq (Trim_sp (by omega) hdq) (by rw [hv])
    clear hdig hv
    generalize val a % d = r at hr
    have hF : Ev (fun k => nat_From.f k (IntKind.u64.wrap (r : Int))) (dg r) := by
      rw [u64 (by omega) (by omega)]
      exact Ev.eq (From_sp (by omega) (by omega)) (by rw [Int.toNat_natCast])
    refine Ev.step (f := ?F) (fun k => ?_) ?_
    rotate_left
    · simp only [quo_short.l0]
      rw [if_neg (Int.lt_irrefl _)]
    exact Ev.bind (f := fun k t => _) hT (Ev.bind (f := fun k t => some (dg (val a / d), t, true)) hF (Ev.now _))
  | succ m ih =>
    intro i q hi hq hdig
    have hw : wrap64 (wrap64 ((a.length : Int) - 1) - (i : Int)) = (m : Int) := by rw [w64 (x := (a.length : Int) - 1) (by omega) (by omega), w64] <;> omega
    have hw2 : wrap64 ((i : Int) + 1) = ((i + 1 : Nat) : Int) := by rw [w64] <;> omega
    have hm : m < a.length := by omega
    have i1 : (i : Int) < (a.length : Int) := by omega
    have i2 : (m : Int) < (a.length : Int) := by omega
    have i3 : (m : Int) < (q.length : Int) := by omega
    have i4 : m + (i + 1) = a.length := by omega
    have hx : val a / 4294967296 ^ (m + 1) % d < d := Nat.mod_lt _ hd0
    have hl : val a / 4294967296 ^ m % 4294967296 < 4294967296 := Nat.mod_lt _ (by decide)
    obtain ⟨s1, s2⟩ := short_digit (X := val a / 4294967296 ^ (m + 1)) hd0 hl
    rw [← div_step] at s1 s2
    have hD := Div32_eq hd hx hl
    rw [s1, s2, show val a / 4294967296 ^ m / d = val a / d / 4294967296 ^ m by rw [Nat.div_div_eq_div_mul, Nat.div_div_eq_div_mul, Nat.mul_comm]] at hD
    have key := ih (i + 1) (q.set m ((val a / d / 4294967296 ^ m % 4294967296 : Nat) : Int)) i4 (by rw [List.length_set]; exact hq) (fun j hj hj2 => by
      rw [getD_set]
      by_cases h : m = j
      · subst h; rw [if_pos ⟨rfl, by omega⟩]
      · rw [if_neg (fun h2 => h h2.1)]; exact hdig j (by omega) hj2)
    refine Ev.step (fun k => ?_) key
    clear key ih hdig s1 s2
    simp only [quo_short.l0]
    rw [if_pos i1, hw, if_pos (Int.natCast_nonneg _), if_pos i2, rd_nat, getD_val ha, hD]
    simp only [Option.bind_some]
    rw [if_pos i3, hw2, Int.toNat_natCast]

theorem short_sp {a : List Int} (ha : Dig a) {d : Nat} (hd0 : 0 < d) (hd : d < 4294967296) (hn : a.length ≤ 100000000) :
    Ev (fun k => quo_short.f k a (d : Int)) (dg (val a / d), dg (val a % d), true) := by
  have h0 := short_loop ha hd0 hd hn a.length 0 (List.replicate a.length 0) (by omega) (by simp) (fun j h1 h2 => by omega)
  rw [Nat.div_eq_of_lt (val_lt ha), Nat.zero_mod] at h0
  refine Ev.congr (fun k => ?_) h0
  unfold quo_short.f
  rw [if_pos (Int.natCast_nonneg _), Int.toNat_natCast, if_pos (by omega)]
  rfl

end Go.Proofs.Ytohkjfdcmiiehaa.Sp
