/- What the functions come to, in numbers: the plain law, no program's memory in sight. -/
import Derived.Test.YtohkjfdcmiiehaaP1
import Derived.Test.YtohkjfdcmiiehaaP2
import Derived.Test.YtohkjfdcmiiehaaP3
import Derived.Test.YtohkjfdcmiiehaaP4
import Derived.Test.YtohkjfdcmiiehaaP5
import Derived.Test.YtohkjfdcmiiehaaP6
import Derived.Test.YtohkjfdcmiiehaaP7
import Derived.Test.YtohkjfdcmiiehaaP8
import Derived.Test.YtohkjfdcmiiehaaP9
import Derived.Test.YtohkjfdcmiiehaaP10
import Derived.Test.YtohkjfdcmiiehaaP11
import Derived.Test.YtohkjfdcmiiehaaP12
import Derived.Test.YtohkjfdcmiiehaaP13
import Derived.Test.YtohkjfdcmiiehaaP15
import Derived.Test.YtohkjfdcmiiehaaNum
namespace Go.Proofs.Ytohkjfdcmiiehaa.Sp
open Go.RowKit Go.Proofs.Ytohkjfdcmiiehaa.P Go.Proofs.Ytohkjfdcmiiehaa.Num Go.Proofs.YtohkjfdcmiiehaaW.PrintWords Go.Proofs.YtohkjfdcmiiehaaW.PrintLast Go.Proofs.YtohkjfdcmiiehaaW.PrintMore

theorem w64 {x : Int} (h0 : -9223372036854775808 ≤ x) (h1 : x < 9223372036854775808) : wrap64 x = x := by unfold wrap64; omega

theorem u64 {x : Int} (h0 : 0 ≤ x) (h1 : x < 18446744073709551616) : IntKind.u64.wrap x = x := by
  simp only [IntKind.wrap, IntKind.bits, IntKind.signed]
  simp
  omega

theorem u32m (x : Int) : IntKind.u32.wrap x = x % 4294967296 := IntKind.wrap_u32 x

theorem Ev.unique {α : Type} {g : Nat → Option α} {r s : α} (h : Ev g r) (k : Ev g s) : r = s := by
  obtain ⟨K, hK⟩ := h
  obtain ⟨L, hL⟩ := k
  have a := hK (K + L) (by omega)
  have b := hL (K + L) (by omega)
  rw [a] at b
  exact Option.some.inj b

theorem Ev.eq {α : Type} {g : Nat → Option α} {r s : α} (h : Ev g r) (e : r = s) : Ev g s := e ▸ h

theorem rd_nat (l : List Int) (i : Nat) : rd l (i : Int) = l.getD i 0 := by simp [rd]

/-- The last digit falls, if it is nought. -/
theorem trim_ev : ∀ (n : Nat) (l : List Int), l.length = n → n ≤ 1000000000 → Dig l → Ev (fun k => nat_trim.f k l) (dg (val l)) := by
  intro n
  induction n with
  | zero =>
    intro l hl _ _
    have : l = [] := by cases l with
      | nil => rfl
      | cons a t => simp at hl
    subst this
    refine Ev.step (f := fun _ => some []) (fun k => ?_) (Ev.eq (Ev.now _) (by simp [val, dg_zero]))
    simp [nat_trim.f, nat_trim.l0]
  | succ n ih =>
    intro l hl hn hd
    have hw : wrap64 ((l.length : Int) - 1) = (n : Int) := by rw [w64] <;> omega
    by_cases h0 : l.getD n 0 = 0
    · have h1 := ih (l.take n) (by rw [List.length_take]; omega) (by omega) (Dig_take hd n)
      have hv : val (l.take n) = val l := by
        have := val_drop_zero l (by omega) (by rw [hl]; exact h0)
        rw [hl] at this; exact this
      rw [hv] at h1
      refine Ev.step (fun k => ?_) h1
      show nat_trim.l0 (k + 1) l = nat_trim.l0 k (l.take n)
      simp only [nat_trim.l0]
      rw [if_pos (by omega), hw, if_pos (by omega), if_pos (by omega), rd_nat, if_pos h0, if_pos (by omega)]
      rfl
    · refine Ev.step (f := fun _ => some l) (fun k => ?_) (Ev.eq (Ev.now _) (dg_val ⟨hd, .inr (by rw [hl]; exact h0)⟩).symm)
      show nat_trim.l0 (k + 1) l = some l
      simp only [nat_trim.l0]
      rw [if_pos (by omega), hw, if_pos (by omega), if_pos (by omega), rd_nat, if_neg h0]

theorem trim_sp {l : List Int} (hl : l.length ≤ 1000000000) (h : Dig l) : Ev (fun k => nat_trim.f k l) (dg (val l)) := trim_ev _ l rfl hl h

theorem dg_len {l : List Int} (h : Dig l) : (dg (val l)).length ≤ l.length := dg_length_le_of h

theorem Trim_sp {l : List Int} (hl : l.length ≤ 1000000000) (h : Dig l) : Ev (fun k => nat_Trim.f k l) (dg (val l)) := by
  refine Ev.bind (f := fun _ t => (slices_Clone_uint32_uint32.f t).bind fun t229 => some t229) (trim_sp hl h) ?_
  have := dg_len h
  refine Ev.congr (f := fun _ => some (dg (val l))) (fun k => ?_) (Ev.now _)
  unfold slices_Clone_uint32_uint32.f
  rw [if_pos (by omega)]
  rfl

theorem val_two (a b : Int) : val [a, b] = a.toNat + 4294967296 * b.toNat := by simp [val]

theorem From_sp {n : Int} (h0 : 0 ≤ n) (h1 : n < 18446744073709551616) : Ev (fun k => nat_From.f k n) (dg n.toNat) := by
  refine Ev.bind (f := fun _ t => some t) (Ev.eq (trim_sp (l := [n % 4294967296, (n / 4294967296) % 4294967296]) (by simp) ?_) ?_) (Ev.now _)
  · intro x hx; simp at hx; omega
  · rw [val_two]; congr 1; omega

theorem or64 {x y : Int} (hx : 0 ≤ x ∧ x < 4294967296) (hy : 0 ≤ y ∧ y < 4294967296) : Go.bits .or .u64 (x * 4294967296) y = x * 4294967296 + y :=
  bits_join .u64 64 (by decide) (fun n h0 h1 => u64 h0 (by omega)) 32 (x * 4294967296) y (by omega) (by omega) (by omega) hy.1 (by omega) (by omega)

/-- How many bits. -/
def bl (n : Nat) : Nat := if n = 0 then 0 else n.log2 + 1

theorem bl_le {n k : Nat} : bl n ≤ k ↔ n < 2 ^ k := by
  unfold bl
  by_cases h : n = 0
  · rw [if_pos h]; subst h; simp [Nat.two_pow_pos]
  · rw [if_neg h, Nat.succ_le_iff, Nat.log2_lt h]

theorem bl_eq {n k : Nat} (h0 : 2 ^ k ≤ n) (h1 : n < 2 ^ (k + 1)) : bl n = k + 1 := by
  have a := bl_le.2 h1
  have b : ¬ bl n ≤ k := fun h => by have := bl_le.1 h; omega
  omega

theorem bitLen_bl {n : Nat} (h : n < 2 ^ 64) : Lib.bitLen n = bl n := by
  have hh : ∀ (m n : Nat), n < 2 ^ m → m ≤ 64 → Lib.bitLen n = bl n := by
    intro m
    induction m with
    | zero => intro n h _; have : n = 0 := by omega
              subst this; decide
    | succ m ih =>
      intro n h hm
      by_cases h0 : n = 0
      · subst h0; decide
      · have h64 : n < 2 ^ 64 := Nat.lt_of_lt_of_le h (Nat.pow_le_pow_right (by omega) hm)
        rw [Lib.bitLen_half n h0 h64, ih (n / 2) (by rw [Nat.pow_succ] at h; omega) (by omega)]
        unfold bl
        rw [if_neg h0]
        by_cases h1 : n / 2 = 0
        · rw [if_pos h1]; have : n = 1 := by omega
          subst this; decide
        · rw [if_neg h1]
          have : n.log2 = (n / 2).log2 + 1 := by rw [Nat.log2_def n]; rw [if_pos (by omega)]
          omega
  exact hh 64 n h (by omega)

/-- The bits of a list of digits are those of its first one, and 32 for each behind it. -/
theorem bl_dg {v n : Nat} (h : (dg v).length = n + 1) : bl v = 32 * n + bl (v / 4294967296 ^ n) ∧ v / 4294967296 ^ n < 4294967296 ∧ v / 4294967296 ^ n ≠ 0 := by
  have h0 := le_of_dg_length (n := v) (k := n) (by omega)
  have h1 := lt_of_dg_length (n := v) (k := n + 1) (by omega)
  have hp := pow_pos' n
  have hq : v / 4294967296 ^ n < 4294967296 := by
    rw [Nat.div_lt_iff_lt_mul hp]; rw [Nat.pow_succ] at h1; rw [Nat.mul_comm]; exact h1
  have hq0 : v / 4294967296 ^ n ≠ 0 := by
    have := Nat.div_pos h0 hp; omega
  refine ⟨?_, hq, hq0⟩
  have e32 : (4294967296 : Nat) ^ n = 2 ^ (32 * n) := by rw [Nat.pow_mul]
  generalize hx : v / 4294967296 ^ n = q at hq hq0
  have hb0 : bl q ≠ 0 := by intro h3; have := bl_le.1 (Nat.le_of_eq h3); omega
  obtain ⟨m, hm⟩ : ∃ m, bl q = m + 1 := ⟨bl q - 1, by omega⟩
  have hm0 : 2 ^ m ≤ q := by
    apply Nat.le_of_not_lt; intro h1; have := bl_le.2 h1; omega
  have hm1 : q < 2 ^ (m + 1) := bl_le.1 (by omega)
  have dm := Nat.div_add_mod v (4294967296 ^ n)
  have ml := Nat.mod_lt v hp
  rw [hx] at dm
  rw [hm]
  have : bl v = (32 * n + m) + 1 := by
    apply bl_eq
    · rw [Nat.pow_add, ← e32]
      have := Nat.mul_le_mul_left (4294967296 ^ n) hm0
      omega
    · rw [show 32 * n + m + 1 = 32 * n + (m + 1) by omega, Nat.pow_add, ← e32]
      have := Nat.mul_le_mul_left (4294967296 ^ n) (show q + 1 ≤ 2 ^ (m + 1) from hm1)
      rw [Nat.mul_add] at this
      omega
  omega

theorem Bits_sp {l : List Int} (hl : l.length ≤ 10000000) (h : Dig l) : Ev (fun k => nat_Bits.f k l) (bl (val l) : Int) := by
  have hlen := dg_len h
  refine Ev.bind (f := fun _ t => _) (trim_sp (by omega) h) (Ev.congr (f := fun _ => some (bl (val l) : Int)) (fun _ => ?_) (Ev.now _))
  generalize val l = v at hlen ⊢
  by_cases h0 : (dg v).length = 0
  · have := dg_length_zero.1 h0
    subst this
    rw [if_pos (by omega)]; rfl
  obtain ⟨n, hn⟩ : ∃ n, (dg v).length = n + 1 := ⟨(dg v).length - 1, by omega⟩
  obtain ⟨b1, b2, b3⟩ := bl_dg hn
  have hw : wrap64 (((dg v).length : Int) - 1) = (n : Int) := by rw [w64] <;> omega
  have hd : rd (dg v) (n : Int) = ((v / 4294967296 ^ n : Nat) : Int) := by rw [rd_nat, dg_getD, Nat.mod_eq_of_lt b2]
  generalize v / 4294967296 ^ n = q at b1 b2 b3 hd
  rw [if_neg (by omega), hw, if_pos (by omega), if_pos (by omega), hd]
  unfold bits_Len32.f
  rw [if_pos (by omega)]
  have hb : Lib.bitLen ((q : Nat) : Int).toNat = bl q := by
    rw [Int.toNat_natCast]; exact bitLen_bl (by omega)
  have hb32 : bl q ≤ 32 := bl_le.2 (by omega)
  simp only [Option.bind_some]
  rw [hb, b1, w64 (x := 32 * (n : Int)) (by omega) (by omega), w64 (by omega) (by omega)]
  congr 1

theorem Add32_eq {x y c : Int} (hx : 0 ≤ x ∧ x < 4294967296) (hy : 0 ≤ y ∧ y < 4294967296) (hc : 0 ≤ c ∧ c ≤ 1) :
    bits_Add32.f x y c = some ((x + y + c) % 4294967296, (x + y + c) / 4294967296) := by
  unfold bits_Add32.f
  rw [u64 (x := x) (by omega) (by omega), u64 (x := y) (by omega) (by omega), u64 (x := c) (by omega) (by omega), u64 (x := x + y) (by omega) (by omega), u64 (x := x + y + c) (by omega) (by omega), Int.emod_eq_of_lt (a := (x + y + c) / 4294967296) (by omega) (by omega)]

theorem Add_loop (a b : List Int) (ha : Dig a) (hb : Dig b) (hl : b.length ≤ a.length) (hn : a.length ≤ 100000000) :
    ∀ (d i : Nat) (out : List Int) (c : Int), a.length - i = d → i ≤ a.length → out.length = a.length + 1 → Dig out → 0 ≤ c ∧ c ≤ 1 →
      val (out.take i) + 4294967296 ^ i * c.toNat = val (a.take i) + val (b.take i) →
      Ev (fun k => nat_Add.l0 k a b out c a.length i) (dg (val a + val b)) := by
  intro d
  induction d with
  | zero =>
    intro i out c hd hi ho hdo hc hv
    have e : i = a.length := by omega
    subst e
    have hv' : val (out.set a.length c) = val a + val b := by
      have h1 := val_take_set out a.length c (by omega)
      rw [take_ge_val _ (by simp; omega)] at h1
      rw [h1, hv, take_all_val, take_ge_val _ hl]
    refine Ev.step (f := fun k => (nat_trim.f k (out.set a.length c)).bind fun t => some t) (fun k => ?_) (Ev.bind (f := fun _ t => some t) (Ev.eq (trim_sp (by simp; omega) (Dig_set hdo _ (by omega))) (by rw [hv'])) (Ev.now _))
    clear hv hv'
    simp only [nat_Add.l0]
    rw [if_neg (by omega), if_pos (by omega), if_pos (by omega)]
    rfl
  | succ d ih =>
    intro i out c hd hi ho hdo hc hv
    have hai := Dig_getD ha i
    have hbi := Dig_getD hb i
    have hs := add_step hai.1 hbi.1 hc.1
    have key : Ev (fun k => nat_Add.l0 k a b (out.set i ((a.getD i 0 + b.getD i 0 + c) % 4294967296)) ((a.getD i 0 + b.getD i 0 + c) / 4294967296) a.length (i + 1 : Nat)) (dg (val a + val b)) := by
      refine ih (i + 1) _ _ (by omega) (by omega) (by simpa using ho) (Dig_set hdo _ (by omega)) (by omega) ?_
      rw [val_take_set _ _ _ (by omega), val_take_succ, val_take_succ, Nat.pow_succ]
      have : 4294967296 ^ i * (((a.getD i 0 + b.getD i 0 + c) % 4294967296).toNat + 4294967296 * ((a.getD i 0 + b.getD i 0 + c) / 4294967296).toNat) = 4294967296 ^ i * ((a.getD i 0).toNat + (b.getD i 0).toNat + c.toNat) := by rw [hs]
      grind
    refine Ev.step (fun k => ?_) key
    clear key hv hs ih
    have hw : wrap64 ((i : Int) + 1) = ((i + 1 : Nat) : Int) := by rw [w64] <;> omega
    simp only [nat_Add.l0]
    rw [if_pos (by omega)]
    by_cases hib : i < b.length
    · rw [if_pos (by omega), if_pos (by omega), if_pos (by omega), rd_nat, rd_nat, Add32_eq hai hbi hc]
      simp only [Option.bind_some]
      rw [if_pos (by omega), hw]
      rfl
    · have hz : b.getD i 0 = 0 := getD_ge b (by omega)
      rw [if_neg (by omega), if_pos (by omega), if_pos (by omega), rd_nat, Add32_eq hai (by omega) hc]
      simp only [Option.bind_some]
      rw [if_pos (by omega), hw, hz]
      rfl

theorem Add_j0 (a b : List Int) (ha : Dig a) (hb : Dig b) (hl : b.length ≤ a.length) (hn : a.length ≤ 100000000) :
    Ev (fun k => nat_Add.j0 k a b) (dg (val a + val b)) := by
  have h0 := Add_loop a b ha hb hl hn a.length 0 (List.replicate (a.length + 1) 0) 0 (by omega) (by omega) (by simp) (Dig_zeros _) (by omega) (by simp [val])
  refine Ev.step (fun k => ?_) h0
  have hw : wrap64 ((a.length : Int) + 1) = ((a.length + 1 : Nat) : Int) := by rw [w64] <;> omega
  simp only [nat_Add.j0]
  rw [hw, if_pos (by omega), if_pos (by omega)]
  rfl

theorem Add_sp {a b : List Int} (ha : Dig a) (hb : Dig b) (hn : a.length ≤ 100000000) (hm : b.length ≤ 100000000) :
    Ev (fun k => nat_Add.f k a b) (dg (val a + val b)) := by
  by_cases h : a.length < b.length
  · refine Ev.congr (f := fun k => nat_Add.j0 k b a) (fun k => ?_) (Ev.eq (Add_j0 b a hb ha (by omega) hm) (by rw [Nat.add_comm]))
    unfold nat_Add.f; rw [if_pos (by omega)]
  · refine Ev.congr (f := fun k => nat_Add.j0 k a b) (fun k => ?_) (Add_j0 a b ha hb (by omega) hn)
    unfold nat_Add.f; rw [if_neg (by omega)]

theorem mul_step {out : List Int} {i j : Nat} {x y c : Int} (V X : Nat) (ho : Dig out) (h : i + j < out.length) (hx : 0 ≤ x ∧ x < 4294967296) (hy : 0 ≤ y ∧ y < 4294967296) (hc : 0 ≤ c ∧ c < 4294967296)
    (hv : val out + 4294967296 ^ (i + j) * c.toNat = V + 4294967296 ^ i * X) :
    0 ≤ x * y + out.getD (i + j) 0 + c ∧ x * y + out.getD (i + j) 0 + c < 18446744073709551616 ∧
    val (out.set (i + j) ((x * y + out.getD (i + j) 0 + c) % 4294967296)) + 4294967296 ^ (i + (j + 1)) * ((x * y + out.getD (i + j) 0 + c) / 4294967296).toNat = V + 4294967296 ^ i * (X + 4294967296 ^ j * (x.toNat * y.toNat)) := by
  have hm := mul_le hx hy
  have hg := Dig_getD ho (i + j)
  have hs := val_set out (i + j) ((x * y + out.getD (i + j) 0 + c) % 4294967296) h
  generalize hoo : out.getD (i + j) 0 = o at hg hs ⊢
  obtain ⟨p, hp⟩ : ∃ p : Nat, x * y = p := ⟨(x * y).toNat, by omega⟩
  have hpn : x.toNat * y.toNat = p := by
    have : ((x.toNat * y.toNat : Nat) : Int) = p := by rw [Int.natCast_mul, Int.toNat_of_nonneg hx.1, Int.toNat_of_nonneg hy.1, hp]
    exact Int.ofNat.inj this
  rw [hp] at hm hs ⊢
  rw [hpn]
  refine ⟨by omega, by omega, ?_⟩
  have e : (((p : Int) + o + c) % 4294967296).toNat + 4294967296 * (((p : Int) + o + c) / 4294967296).toNat = p + o.toNat + c.toNat := by omega
  generalize (((p : Int) + o + c) % 4294967296).toNat = lo at e hs
  generalize (((p : Int) + o + c) / 4294967296).toNat = hi at e ⊢
  have e2 : 4294967296 ^ (i + j) * (lo + 4294967296 * hi) = 4294967296 ^ (i + j) * (p + o.toNat + c.toNat) := by rw [e]
  rw [show i + (j + 1) = (i + j) + 1 by omega, Nat.pow_succ, Nat.mul_add (4294967296 ^ i), ← Nat.mul_assoc (4294967296 ^ i) (4294967296 ^ j), ← Nat.pow_add]
  grind

theorem div_bd {s : Int} (h0 : 0 ≤ s) (h1 : s < 18446744073709551616) : 0 ≤ s / 4294967296 ∧ s / 4294967296 < 4294967296 := by omega

theorem mod_bd (s : Int) : 0 ≤ s % 4294967296 ∧ s % 4294967296 < 4294967296 := by omega

theorem dig64 {x : Int} (h : 0 ≤ x ∧ x < 4294967296) : IntKind.u64.wrap x = x := u64 h.1 (by omega)

theorem lt_of_le_u64 {x : Int} (h : x ≤ 18446744065119617025) : x < 18446744073709551616 := by omega

theorem lt_u64 {x y : Int} (h : x ≤ 18446744065119617025) (hy : y < 4294967296) : x + y < 18446744073709551616 := by omega

theorem Mul_inner (b : List Int) (hb : Dig b) (la i : Nat) (hi : i < la) (hla : la ≤ 100000000) (hlb : b.length ≤ 100000000) (x : Int) (hx : 0 ≤ x ∧ x < 4294967296) (a22 : List Int) (x24 : Int) (V : Nat) (r : List Int)
    (hnext : ∀ out : List Int, out.length = la + b.length → Dig out → (∀ q, i + b.length + 1 ≤ q → out.getD q 0 = 0) → val out = V + 4294967296 ^ i * (x.toNat * val b) → Ev (fun k => nat_Mul.l0 k b out a22 la (wrap64 (x24 + 1))) r) :
    ∀ (d j : Nat) (out : List Int) (c : Int), b.length - j = d → j ≤ b.length → out.length = la + b.length → Dig out → (∀ q, i + b.length ≤ q → out.getD q 0 = 0) → 0 ≤ c ∧ c < 4294967296 →
      val out + 4294967296 ^ (i + j) * c.toNat = V + 4294967296 ^ i * (x.toNat * val (b.take j)) →
      Ev (fun k => nat_Mul.l1 k b out i x c a22 la x24 b b.length j) r := by
  intro d
  induction d with
  | zero =>
    intro j out c hd hj ho hdo hz hc hv
    have e : j = b.length := by omega
    subst e
    have h1 : Ev (fun k => nat_Mul.l0 k b (out.set (i + b.length) (c % 4294967296)) a22 la (wrap64 (x24 + 1))) r := by
      refine hnext _ (by simpa using ho) (Dig_set hdo _ (by omega)) (fun q hq => ?_) ?_
      · rw [getD_set, if_neg (by omega)]; exact hz q (by omega)
      · have hs := val_set out (i + b.length) (c % 4294967296) (by omega)
        rw [hz _ (Nat.le_refl _), Int.emod_eq_of_lt hc.1 hc.2] at hs
        rw [Int.emod_eq_of_lt hc.1 hc.2]
        rw [take_all_val] at hv
        rw [Int.toNat_zero, Nat.mul_zero, Nat.add_zero] at hs
        rw [hs, hv]
    refine Ev.step (fun k => ?_) h1
    clear h1 hv hz hnext
    have hw : wrap64 ((i : Int) + (b.length : Int)) = ((i + b.length : Nat) : Int) := by rw [w64] <;> omega
    simp only [nat_Mul.l1]
    rw [if_neg (by omega), hw, if_pos (by omega), if_pos (by omega)]
    rfl
  | succ d ih =>
    intro j out c hd hj ho hdo hz hc hv
    have e1 : b.length - (j + 1) = d := by omega
    have e2 : j + 1 ≤ b.length := by omega
    have e3 : i + j < out.length := by omega
    have e7 : ∀ q, i + b.length ≤ q → ¬ (i + j = q ∧ i + j < out.length) := fun q hq h => by clear hv; omega
    have f1 : (j : Int) < (b.length : Int) := by clear hv; omega
    have f2 : (0 : Int) ≤ (j : Int) := by clear hv; omega
    have f4 : (0 : Int) ≤ ((i + j : Nat) : Int) := by clear hv; omega
    have f5 : ((i + j : Nat) : Int) < (out.length : Int) := by clear hv; omega
    have e4 : wrap64 ((i : Int) + (j : Int)) = ((i + j : Nat) : Int) := by clear hv; rw [w64] <;> omega
    have e5 : wrap64 ((j : Int) + 1) = ((j + 1 : Nat) : Int) := by clear hv; rw [w64] <;> omega
    have hy := Dig_getD hb j
    obtain ⟨s0, s1, s2⟩ := mul_step V (x.toNat * val (b.take j)) hdo (i := i) (j := j) e3 hx hy hc hv
    have hgo := Dig_getD hdo (i + j)
    have e6 : x.toNat * val (b.take (j + 1)) = x.toNat * val (b.take j) + 4294967296 ^ j * (x.toNat * (b.getD j 0).toNat) := by
      rw [val_take_succ, Nat.mul_add, Nat.mul_left_comm]
    have h1 : Ev (fun k => nat_Mul.l1 k b (out.set (i + j) ((x * b.getD j 0 + out.getD (i + j) 0 + c) % 4294967296)) i x ((x * b.getD j 0 + out.getD (i + j) 0 + c) / 4294967296) a22 la x24 b b.length (j + 1 : Nat)) r := by
      refine ih (j + 1) _ _ e1 e2 (by simpa using ho) (Dig_set hdo _ (mod_bd _)) (fun q hq => ?_) (div_bd s0 s1) ?_
      · rw [getD_set, if_neg (e7 q hq)]; exact hz q hq
      · rw [e6]; exact s2
    refine Ev.step (fun k => ?_) h1
    obtain ⟨m1, m2⟩ := mul_le hx hy
    have g1 := u64 (x := x * b.getD j 0) m1 (lt_of_le_u64 m2)
    have g2 := u64 (x := x * b.getD j 0 + out.getD (i + j) 0) (Int.add_nonneg m1 hgo.1) (lt_u64 m2 hgo.2)
    simp only [nat_Mul.l1]
    rw [if_pos f1, if_pos f2, if_pos f1, e4, if_pos f4, if_pos f5, e5, rd_nat, rd_nat, dig64 hx, dig64 hy, dig64 hgo, g1, g2, u64 (x := x * b.getD j 0 + out.getD (i + j) 0 + c) s0 s1]
    rfl

theorem Mul_outer (a b : List Int) (ha : Dig a) (hb : Dig b) (hla : a.length ≤ 100000000) (hlb : b.length ≤ 100000000) :
    ∀ (d i : Nat) (out : List Int), a.length - i = d → i ≤ a.length → out.length = a.length + b.length → Dig out → (∀ q, i + b.length ≤ q → out.getD q 0 = 0) → val out = val (a.take i) * val b →
      Ev (fun k => nat_Mul.l0 k b out a a.length i) (dg (val a * val b)) := by
  intro d
  induction d with
  | zero =>
    intro i out hd hi ho hdo hz hv
    have e : i = a.length := by omega
    subst e
    rw [take_all_val] at hv
    refine Ev.step (f := fun k => (nat_trim.f k out).bind fun t => some t) (fun k => ?_) (Ev.bind (f := fun _ t => some t) (Ev.eq (trim_sp (by omega) hdo) (by rw [hv])) (Ev.now _))
    simp only [nat_Mul.l0]
    rw [if_neg (by omega)]
  | succ d ih =>
    intro i out hd hi ho hdo hz hv
    have hx := Dig_getD ha i
    have hw1 : wrap64 ((i : Int) + 1) = ((i + 1 : Nat) : Int) := by rw [w64] <;> omega
    have h1 := Mul_inner b hb a.length i (by omega) hla hlb (a.getD i 0) hx a i (val out) (dg (val a * val b)) (fun out' ho' hdo' hz' hv' => by
      rw [hw1]
      refine ih (i + 1) out' (by omega) (by omega) ho' hdo' (fun q hq => hz' q (by omega)) ?_
      rw [hv', hv, val_take_succ]
      grind) b.length 0 out 0 (by omega) (by omega) ho hdo hz (by omega) (by simp [val])
    refine Ev.step (fun k => ?_) h1
    clear h1 hv hz ih
    simp only [nat_Mul.l0]
    rw [if_pos (by omega), if_pos (by omega), if_pos (by omega), rd_nat]
    rfl

theorem Mul_sp {a b : List Int} (ha : Dig a) (hb : Dig b) (hn : a.length ≤ 100000000) (hm : b.length ≤ 100000000) :
    Ev (fun k => nat_Mul.f k a b) (dg (val a * val b)) := by
  refine Ev.bind (f := fun k t129 => _) (trim_sp (by omega) ha) (Ev.bind (f := fun k t132 => _) (trim_sp (by omega) hb) ?_)
  have la := dg_len ha
  have lb := dg_len hb
  have h0 := Mul_outer (dg (val a)) (dg (val b)) (Dig_dg _) (Dig_dg _) (by omega) (by omega) (dg (val a)).length 0 (List.replicate ((dg (val a)).length + (dg (val b)).length) 0) (by omega) (by omega) (by simp) (Dig_zeros _) (fun q _ => by simp [List.getD_eq_getElem?_getD, List.getElem?_replicate]; split <;> rfl) (by rw [val_zeros, take_zero_val]; simp)
  rw [val_dg, val_dg] at h0
  refine Ev.congr (fun k => ?_) h0
  have hw : wrap64 (((dg (val a)).length : Int) + ((dg (val b)).length : Int)) = (((dg (val a)).length + (dg (val b)).length : Nat) : Int) := by rw [w64] <;> omega
  rw [hw, if_pos (by omega), if_pos (by omega)]
  rfl

/-- How two numbers stand. -/
def cmp (x y : Nat) : Int := if x < y then -1 else if x = y then 0 else 1

theorem div_step (x m : Nat) : x / 4294967296 ^ m = x / 4294967296 ^ (m + 1) * 4294967296 + x / 4294967296 ^ m % 4294967296 := by
  rw [Nat.pow_succ, ← Nat.div_div_eq_div_mul]
  omega

theorem lt_of_div {x y p : Nat} (h : x / p < y / p) : x < y := by
  apply Nat.lt_of_not_le
  intro h1
  have := Nat.div_le_div_right (c := p) h1
  omega

theorem cmp_digit {x y m : Nat} (h : x / 4294967296 ^ (m + 1) = y / 4294967296 ^ (m + 1)) (hd : x / 4294967296 ^ m % 4294967296 < y / 4294967296 ^ m % 4294967296) : x < y := by
  apply lt_of_div (p := 4294967296 ^ m)
  rw [div_step x m, div_step y m, h]
  omega

theorem same_digit {x y m : Nat} (h : x / 4294967296 ^ (m + 1) = y / 4294967296 ^ (m + 1)) (hd : x / 4294967296 ^ m % 4294967296 = y / 4294967296 ^ m % 4294967296) : x / 4294967296 ^ m = y / 4294967296 ^ m := by
  rw [div_step x m, div_step y m, h, hd]

theorem Cmp_loop (x y n : Nat) (hx : (dg x).length = n) (hy : (dg y).length = n) (hn : n ≤ 100000000) :
    ∀ (m i : Nat), m + i = n → x / 4294967296 ^ m = y / 4294967296 ^ m → Ev (fun k => nat_Cmp.l0 k (dg x) (dg y) n i) (cmp x y) := by
  intro m
  induction m with
  | zero =>
    intro i hi he
    simp only [Nat.pow_zero, Nat.div_one] at he
    refine Ev.step (f := fun _ => some 0) (fun k => ?_) (Ev.eq (Ev.now _) (by unfold cmp; rw [if_neg (by omega), if_pos he]))
    simp only [nat_Cmp.l0]
    rw [if_neg (by omega)]
  | succ m ih =>
    intro i hi
    have un : ∀ k, nat_Cmp.l0 (k + 1) (dg x) (dg y) n i = if rd (dg x) m < rd (dg y) m then some (-1) else if rd (dg x) m > rd (dg y) m then some 1 else nat_Cmp.l0 k (dg x) (dg y) n (i + 1 : Nat) := by
      intro k
      clear ih
      have w1 : wrap64 (((dg x).length : Int) - 1) = (m + i : Nat) := by rw [hx, w64] <;> omega
      have w2 : wrap64 (((dg y).length : Int) - 1) = (m + i : Nat) := by rw [hy, w64] <;> omega
      have w3 : wrap64 (((m + i : Nat) : Int) - (i : Int)) = (m : Nat) := by clear w1 w2; rw [w64] <;> omega
      have w4 : wrap64 ((i : Int) + 1) = ((i + 1 : Nat) : Int) := by clear w1 w2 w3; rw [w64] <;> omega
      have f1 : (i : Int) < (n : Int) := by clear w1 w2 w3 w4; omega
      have f2 : (0 : Int) ≤ (m : Int) := Int.natCast_nonneg m
      have f3 : (m : Int) < ((dg x).length : Int) := by clear w1 w2 w3 w4; omega
      have f4 : (m : Int) < ((dg y).length : Int) := by clear w1 w2 w3 w4; omega
      simp only [nat_Cmp.l0]
      rw [if_pos f1, w1, w2, w3, if_pos f2, if_pos f3, if_pos f2, if_pos f4, w4]
    have a1 : rd (dg x) m = ((x / 4294967296 ^ m % 4294967296 : Nat) : Int) := by rw [rd_nat, dg_getD]
    have a2 : rd (dg y) m = ((y / 4294967296 ^ m % 4294967296 : Nat) : Int) := by rw [rd_nat, dg_getD]
    rw [a1, a2] at un
    have ihn := ih (i + 1) (by omega)
    clear ih a1 a2 hi hx hy hn
    intro he
    have c1 := @cmp_digit x y m he
    have c2 := @cmp_digit y x m he.symm
    have c3 := @same_digit x y m he
    clear he
    generalize x / 4294967296 ^ m % 4294967296 = p at un c1 c2 c3
    generalize y / 4294967296 ^ m % 4294967296 = q at un c1 c2 c3
    by_cases h1 : p < q
    · have h := c1 h1
      refine Ev.step (f := fun _ => some (-1)) (fun k => ?_) (Ev.eq (Ev.now _) (by unfold cmp; rw [if_pos h]))
      rw [un, if_pos (Int.ofNat_lt.2 h1)]
    · by_cases h2 : q < p
      · have h := c2 h2
        refine Ev.step (f := fun _ => some 1) (fun k => ?_) (Ev.eq (Ev.now _) (by unfold cmp; rw [if_neg (Nat.lt_asymm h), if_neg (Nat.ne_of_gt h)]))
        rw [un, if_neg (fun h => h1 (Int.ofNat_lt.1 h)), if_pos (Int.ofNat_lt.2 h2)]
      · refine Ev.step (fun k => ?_) (ihn (c3 (Nat.le_antisymm (Nat.le_of_not_lt h2) (Nat.le_of_not_lt h1))))
        rw [un, if_neg (fun h => h1 (Int.ofNat_lt.1 h)), if_neg (fun h => h2 (Int.ofNat_lt.1 h))]

theorem lt_of_len {x y : Nat} (h : (dg x).length < (dg y).length) : x < y := by
  have h1 := lt_of_dg_length (n := x) (Nat.le_refl _)
  have h2 := le_of_dg_length (n := y) (k := (dg x).length) h
  exact Nat.lt_of_lt_of_le h1 h2

theorem Cmp_sp {a b : List Int} (ha : Dig a) (hb : Dig b) (hn : a.length ≤ 100000000) (hm : b.length ≤ 100000000) :
    Ev (fun k => nat_Cmp.f k a b) (cmp (val a) (val b)) := by
  refine Ev.bind (f := fun k t129 => _) (trim_sp (by omega) ha) (Ev.bind (f := fun k t132 => _) (trim_sp (by omega) hb) ?_)
  have la := dg_len ha
  have lb := dg_len hb
  by_cases h : (dg (val a)).length = (dg (val b)).length
  · have e : val a / 4294967296 ^ (dg (val a)).length = val b / 4294967296 ^ (dg (val a)).length := by
      rw [Nat.div_eq_of_lt (lt_of_dg_length (Nat.le_refl _)), Nat.div_eq_of_lt (lt_of_dg_length (by omega))]
    refine Ev.congr (fun k => ?_) (Cmp_loop (val a) (val b) (dg (val a)).length rfl h.symm (by omega) (dg (val a)).length 0 (by omega) e)
    rw [if_pos (by omega)]
    rfl
  · by_cases h1 : (dg (val a)).length < (dg (val b)).length
    · have := lt_of_len h1
      refine Ev.congr (f := fun _ => some (-1)) (fun k => ?_) (Ev.eq (Ev.now _) (by unfold cmp; rw [if_pos this]))
      rw [if_neg (by omega), if_pos (by omega)]
    · have := lt_of_len (x := val b) (y := val a) (by omega)
      refine Ev.congr (f := fun _ => some 1) (fun k => ?_) (Ev.eq (Ev.now _) (by unfold cmp; rw [if_neg (by omega), if_neg (by omega)]))
      rw [if_neg (by omega), if_neg (by omega)]

theorem xor32 (a b : Nat) (ha : a < 4294967296) (hb : b < 4294967296) : Go.bits .xor .u32 (a : Int) (b : Int) = ((a ^^^ b : Nat) : Int) := by
  have hl : a ^^^ b < 4294967296 := Nat.xor_lt_two_pow (n := 32) ha hb
  have ha' : a % 2 ^ IntKind.u32.bits = a := Nat.mod_eq_of_lt ha
  have hb' : b % 2 ^ IntKind.u32.bits = b := Nat.mod_eq_of_lt hb
  simp only [Go.bits, BitVec.ofInt_natCast, BitVec.toNat_xor, BitVec.toNat_ofNat, ha', hb']
  rw [u32m]
  omega

theorem or32 (a b : Nat) (ha : a < 4294967296) (hb : b < 4294967296) : Go.bits .or .u32 (a : Int) (b : Int) = ((a ||| b : Nat) : Int) :=
  (bits_nat .u32 32 (by decide) (fun n h0 h1 => by rw [u32m]; omega) a b ha hb).2

theorem and32 (a b : Nat) (ha : a < 4294967296) (hb : b < 4294967296) : Go.bits .and .u32 (a : Int) (b : Int) = ((a &&& b : Nat) : Int) :=
  (bits_nat .u32 32 (by decide) (fun n h0 h1 => by rw [u32m]; omega) a b ha hb).1

theorem borrow_nat (x y d : Nat) : ((4294967295 ^^^ x) &&& y ||| (4294967295 ^^^ (x ^^^ y)) &&& d) / 2147483648 =
    ((1 ^^^ x / 2147483648) &&& (y / 2147483648)) ||| ((1 ^^^ (x / 2147483648 ^^^ y / 2147483648)) &&& (d / 2147483648)) := by
  have e : ∀ n : Nat, n / 2147483648 = n >>> 31 := fun n => (Nat.shiftRight_eq_div_pow n 31).symm
  simp only [e, Nat.shiftRight_or_distrib, Nat.shiftRight_and_distrib, Nat.shiftRight_xor_distrib]
  rfl

theorem Sub32_eq {x y c : Int} (hx : 0 ≤ x ∧ x < 4294967296) (hy : 0 ≤ y ∧ y < 4294967296) (hc : 0 ≤ c ∧ c ≤ 1) :
    bits_Sub32.f x y c = some ((x - y - c) % 4294967296, if x < y + c then 1 else 0) := by
  unfold bits_Sub32.f
  have e1 : ((x - y) % 4294967296 - c) % 4294967296 = (x - y - c) % 4294967296 := by omega
  rw [e1]
  obtain ⟨a, rfl⟩ := Int.eq_ofNat_of_zero_le hx.1
  obtain ⟨b, rfl⟩ := Int.eq_ofNat_of_zero_le hy.1
  obtain ⟨d, hd⟩ := Int.eq_ofNat_of_zero_le (show 0 ≤ ((a : Int) - b - c) % 4294967296 by omega)
  have em : IntKind.u32.max = ((4294967295 : Nat) : Int) := by decide
  have ha : a < 4294967296 := by omega
  have hb : b < 4294967296 := by omega
  have hdl : d < 4294967296 := by omega
  rw [hd, em, xor32 _ _ (by omega) ha, xor32 _ _ ha hb]
  have l1 : 4294967295 ^^^ a < 4294967296 := Nat.xor_lt_two_pow (n := 32) (by omega) ha
  have l2 : a ^^^ b < 4294967296 := Nat.xor_lt_two_pow (n := 32) ha hb
  have l3 : 4294967295 ^^^ (a ^^^ b) < 4294967296 := Nat.xor_lt_two_pow (n := 32) (by omega) l2
  have l4 : (4294967295 ^^^ a) &&& b < 4294967296 := Nat.lt_of_le_of_lt Nat.and_le_right hb
  have l5 : (4294967295 ^^^ (a ^^^ b)) &&& d < 4294967296 := Nat.lt_of_le_of_lt Nat.and_le_right hdl
  rw [xor32 _ _ (by omega) l2, and32 _ _ l1 hb, and32 _ _ l3 hdl, or32 _ _ l4 l5]
  have hn := borrow_nat a b d
  clear l1 l2 l3 l4 l5
  have key : (((4294967295 ^^^ a) &&& b ||| (4294967295 ^^^ (a ^^^ b)) &&& d : Nat) : Int) / 2147483648 = if (a : Int) < b + c then 1 else 0 := by
    have : (((4294967295 ^^^ a) &&& b ||| (4294967295 ^^^ (a ^^^ b)) &&& d : Nat) : Int) / 2147483648 = ((((4294967295 ^^^ a) &&& b ||| (4294967295 ^^^ (a ^^^ b)) &&& d) / 2147483648 : Nat) : Int) := by simp
    rw [this, hn]
    clear this hn em
    have ta : a / 2147483648 = 0 ∨ a / 2147483648 = 1 := by clear hd; omega
    have tb : b / 2147483648 = 0 ∨ b / 2147483648 = 1 := by clear hd ta; omega
    have td : d / 2147483648 = 0 ∨ d / 2147483648 = 1 := by clear hd ta tb; omega
    have hcc : c = 0 ∨ c = 1 := by clear hd ta tb td; omega
    clear hx hy hc e1
    rcases ta with ta | ta <;> rcases tb with tb | tb <;> rcases td with td | td <;> rcases hcc with rfl | rfl <;> simp only [ta, tb, td] <;> split <;> first | rfl | (exfalso; omega)
  rw [key]

theorem sub_step {x y c : Int} (hx : 0 ≤ x) (hy : 0 ≤ y) (hc : 0 ≤ c) (hx1 : x < 4294967296) (hy1 : y < 4294967296) (hc1 : c ≤ 1) :
    ((x - y - c) % 4294967296).toNat + y.toNat + c.toNat = x.toNat + 4294967296 * (if x < y + c then (1 : Int) else 0).toNat := by
  split <;> omega

theorem brw_bd (x y c : Int) : 0 ≤ (if x < y + c then (1 : Int) else 0) ∧ (if x < y + c then (1 : Int) else 0) ≤ 1 := by split <;> omega

theorem Sub_loop (a b : List Int) (ha : Dig a) (hb : Dig b) (hn : a.length ≤ 100000000) (hl : b.length ≤ a.length) :
    ∀ (d i : Nat) (out : List Int) (c : Int), d + i = a.length → out.length = a.length → Dig out → 0 ≤ c ∧ c ≤ 1 →
      val (out.take i) + val (b.take i) = val (a.take i) + 4294967296 ^ i * c.toNat →
      Ev (fun k => nat_Sub.l0 k a b out c a.length i) (if val b ≤ val a then (dg (val a - val b), true) else ([], false)) := by
  intro d
  induction d with
  | zero =>
    intro i out c hd ho hdo hc hv
    have e : i = a.length := by omega
    subst e
    rw [take_all_val, take_ge_val _ (Nat.le_of_eq ho), take_ge_val _ hl] at hv
    have hb0 := val_lt hdo
    rw [ho] at hb0
    rcases (show c = 0 ∨ c = 1 by clear hv hb0; omega) with rfl | rfl
    · rw [Int.toNat_zero, Nat.mul_zero, Nat.add_zero] at hv
      clear hb0
      have hle : val b ≤ val a := by omega
      have hs : val a - val b = val out := by omega
      rw [if_pos hle, hs]
      refine Ev.step (f := fun k => (nat_trim.f k out).bind fun t => some (t, true)) (fun k => ?_) (Ev.bind (f := fun _ t => some (t, true)) (trim_sp (by clear hv hle hs; omega) hdo) (Ev.now _))
      simp only [nat_Sub.l0]
      rw [if_neg (Int.lt_irrefl _), if_neg (Int.lt_irrefl _)]
    · have hlt : ¬ val b ≤ val a := by
        have : (1 : Int).toNat = 1 := rfl
        rw [this, Nat.mul_one] at hv
        generalize 4294967296 ^ a.length = p at hv hb0
        omega
      rw [if_neg hlt]
      refine Ev.step (f := fun k => some ([], false)) (fun k => ?_) (Ev.now _)
      simp only [nat_Sub.l0]
      rw [if_neg (Int.lt_irrefl _), if_pos (by decide)]
  | succ d ih =>
    intro i out c hd ho hdo hc hv
    have hai := Dig_getD ha i
    have hbi := Dig_getD hb i
    have e1 : d + (i + 1) = a.length := by clear hv; omega
    have e2 : i < out.length := by clear hv; omega
    have f1 : (i : Int) < (a.length : Int) := by clear hv; omega
    have f2 : (0 : Int) ≤ (i : Int) := Int.natCast_nonneg i
    have f3 : (i : Int) < (out.length : Int) := by clear hv; omega
    have hw : wrap64 ((i : Int) + 1) = ((i + 1 : Nat) : Int) := by clear hv; rw [w64] <;> omega
    have hs := sub_step hai.1 hbi.1 hc.1 hai.2 hbi.2 hc.2
    have key : Ev (fun k => nat_Sub.l0 k a b (out.set i ((a.getD i 0 - b.getD i 0 - c) % 4294967296)) (if a.getD i 0 < b.getD i 0 + c then 1 else 0) a.length (i + 1 : Nat)) (if val b ≤ val a then (dg (val a - val b), true) else ([], false)) := by
      refine ih (i + 1) _ _ e1 (by simpa using ho) (Dig_set hdo _ (mod_bd _)) (brw_bd _ _ _) ?_
      rw [val_take_set _ _ _ e2, val_take_succ, val_take_succ, Nat.pow_succ]
      generalize ((a.getD i 0 - b.getD i 0 - c) % 4294967296).toNat = z at hs ⊢
      generalize (if a.getD i 0 < b.getD i 0 + c then (1 : Int) else 0).toNat = q at hs ⊢
      have : 4294967296 ^ i * (z + (b.getD i 0).toNat + c.toNat) = 4294967296 ^ i * ((a.getD i 0).toNat + 4294967296 * q) := by rw [hs]
      grind
    refine Ev.step (fun k => ?_) key
    clear key hv hs ih
    simp only [nat_Sub.l0]
    rw [if_pos f1]
    by_cases hib : i < b.length
    · rw [if_pos (Int.ofNat_lt.2 hib), if_pos f2, if_pos f1, rd_nat, rd_nat, Sub32_eq hai hbi hc]
      simp only [Option.bind_some]
      rw [if_pos f3, hw]
      rfl
    · have hz : b.getD i 0 = 0 := getD_ge b (by omega)
      have h0 : (0 : Int) ≤ 0 ∧ (0 : Int) < 4294967296 := by decide
      rw [if_neg (fun h => hib (Int.ofNat_lt.1 h)), if_pos f2, if_pos f1, rd_nat, Sub32_eq hai h0 hc]
      simp only [Option.bind_some]
      rw [if_pos f3, hw, hz]
      rfl

theorem Sub_sp {a b : List Int} (ha : Dig a) (hb : Dig b) (hn : a.length ≤ 100000000) (hm : b.length ≤ 100000000) :
    Ev (fun k => nat_Sub.f k a b) (if val b ≤ val a then (dg (val a - val b), true) else ([], false)) := by
  refine Ev.bind (f := fun k t129 => _) (trim_sp (by omega) ha) (Ev.bind (f := fun k t132 => _) (trim_sp (by omega) hb) ?_)
  have la := dg_len ha
  have lb := dg_len hb
  by_cases h : (dg (val a)).length < (dg (val b)).length
  · have h1 := lt_of_len h
    rw [if_neg (Nat.not_le.2 h1)]
    refine Ev.congr (f := fun _ => some ([], false)) (fun k => ?_) (Ev.now _)
    rw [if_pos (by omega)]
  · have h0 := Sub_loop (dg (val a)) (dg (val b)) (Dig_dg _) (Dig_dg _) (by omega) (by omega) (dg (val a)).length 0 (List.replicate (dg (val a)).length 0) 0 (by omega) (by simp) (Dig_zeros _) (by decide) (by simp [val])
    rw [val_dg, val_dg] at h0
    refine Ev.congr (fun k => ?_) h0
    rw [if_neg (by omega), if_pos (by omega), if_pos (by omega)]
    rfl

theorem shl64 {x : Int} {r : Nat} (hx : 0 ≤ x ∧ x < 4294967296) (hr : r < 32) : shl .u64 (IntKind.u64.wrap x) (r : Int) = ((x.toNat * 2 ^ r : Nat) : Int) := by
  unfold shl
  rw [dig64 hx]
  have hm : min ((r : Int).toNat) IntKind.u64.bits = r := by
    have : IntKind.u64.bits = 64 := rfl
    rw [this]; omega
  rw [hm]
  have h2 : 2 ^ r ≤ 2 ^ 31 := Nat.pow_le_pow_right (by omega) (by omega)
  have h3 := Nat.mul_le_mul (show x.toNat ≤ 4294967295 by omega) h2
  have e : x * 2 ^ r = ((x.toNat * 2 ^ r : Nat) : Int) := by
    rw [Int.natCast_mul, Int.toNat_of_nonneg hx.1, Int.natCast_pow]; rfl
  rw [e, u64 (Int.natCast_nonneg _) (by omega)]

theorem or_low {o low r : Nat} (ho : o < 2 ^ r) (hd : low % 2 ^ r = 0) : o ||| low = o + low := by
  have hq : low = 2 ^ r * (low / 2 ^ r) := by
    have := Nat.div_add_mod low (2 ^ r)
    rw [hd, Nat.add_zero] at this
    exact this.symm
  rw [hq, Nat.or_comm, ← Nat.two_pow_add_eq_or_of_lt ho, Nat.add_comm]

/-- What one digit gives, moved up by r bits: a low digit, a multiple of 2^r, and a high one below 2^r. -/
theorem shl_parts {x r : Nat} (hx : x < 4294967296) (hr : r < 32) : (x * 2 ^ r) % 4294967296 % 2 ^ r = 0 ∧ (x * 2 ^ r) / 4294967296 < 2 ^ r := by
  constructor
  · have e : 4294967296 = 2 ^ r * 2 ^ (32 - r) := by rw [← Nat.pow_add, show r + (32 - r) = 32 by omega]
    rw [e, Nat.mod_mul_right_mod, Nat.mul_mod_left]
  · rw [Nat.div_lt_iff_lt_mul (by omega), Nat.mul_comm (2 ^ r)]
    exact Nat.mul_lt_mul_of_pos_right hx (Nat.two_pow_pos r)

theorem shl_alg (V b p w x : Nat) : V * p * b + b * w * (x * p) = (V + w * x) * p * b := by grind

theorem shl_fin {W W1 vo o lo hi P b w V p x : Nat} (s1 : W1 + b * w * o = vo + (b * w * o + b * w * lo)) (s2 : W = W1 + b * w * (4294967296 * hi)) (hv : vo = V * p * b) (hm : lo + 4294967296 * hi = P) (hP : x * p = P) : W = (V + w * x) * p * b := by
  have h1 : W1 = vo + b * w * lo := by
    have : W1 + b * w * o = (vo + b * w * lo) + b * w * o := by rw [s1, Nat.add_comm (b * w * o), ← Nat.add_assoc]
    exact Nat.add_right_cancel this
  subst h1 hv s2
  have h2 : b * w * (lo + 4294967296 * hi) = b * w * (x * p) := by rw [hm, hP]
  rw [Nat.mul_add] at h2
  rw [Nat.add_assoc, h2]
  exact shl_alg _ _ _ _ _

theorem shl_step {out : List Int} {V q i r : Nat} {x : Int} (hr : r < 32) (hx : 0 ≤ x ∧ x < 4294967296) (hd : Dig out) (hlen : q + i + 1 < out.length)
    (hz : ∀ m, q + i + 1 ≤ m → out.getD m 0 = 0) (ho : (out.getD (q + i) 0).toNat < 2 ^ r) (hv : val out = V * 2 ^ r * 4294967296 ^ q)
    {P : Nat} (hPe : x.toNat * 2 ^ r = P) {out2 : List Int} (h2 : out2 = (out.set (q + i) (Go.bits .or .u32 (out.getD (q + i) 0) ((P : Int) % 4294967296))).set (q + i + 1) ((P : Int) / 4294967296 % 4294967296)) :
    out2.length = out.length ∧ Dig out2 ∧ (∀ m, q + i + 2 ≤ m → out2.getD m 0 = 0) ∧ (out2.getD (q + i + 1) 0).toNat < 2 ^ r ∧ val out2 = (V + 4294967296 ^ i * x.toNat) * 2 ^ r * 4294967296 ^ q := by
  have hxn : x.toNat < 4294967296 := by clear hv; omega
  obtain ⟨p1, p2⟩ := shl_parts hxn hr
  have h31 : 2 ^ r ≤ 2147483648 := Nat.pow_le_pow_right (n := 2) (by omega) (show r ≤ 31 by clear hv; omega)
  have hg := Dig_getD hd (q + i)
  obtain ⟨o, ho'⟩ := Int.eq_ofNat_of_zero_le hg.1
  rw [ho'] at ho hg
  rw [Int.toNat_natCast] at ho
  rw [hPe] at p1 p2
  have c1 : ((P : Int) % 4294967296) = ((P % 4294967296 : Nat) : Int) := by omega
  have c2 : ((P : Int) / 4294967296 % 4294967296) = ((P / 4294967296 : Nat) : Int) := by clear hv; omega
  have hlow : P % 4294967296 < 4294967296 := Nat.mod_lt _ (by omega)
  have e1 : Go.bits .or .u32 (out.getD (q + i) 0) ((P : Int) % 4294967296) = ((o + P % 4294967296 : Nat) : Int) := by
    rw [ho', c1, or32 _ _ (by clear hv; omega) hlow, or_low ho p1]
  have hsum : o + P % 4294967296 < 4294967296 := by
    rw [← or_low ho p1]
    exact Nat.or_lt_two_pow (n := 32) (by clear hv; omega) hlow
  have ho2 : out2 = (out.set (q + i) ((o + P % 4294967296 : Nat) : Int)).set (q + i + 1) ((P / 4294967296 : Nat) : Int) := by
    rw [h2, e1, c2]
  clear h2
  subst ho2
  have hhi : P / 4294967296 < 4294967296 := by clear hv; omega
  refine ⟨by simp, Dig_set (Dig_set hd _ ⟨Int.natCast_nonneg _, by omega⟩) _ ⟨Int.natCast_nonneg _, by omega⟩, ?_, ?_, ?_⟩
  · intro m hm
    rw [getD_set, if_neg (fun h => by have := h.1; clear hv; omega), getD_set, if_neg (fun h => by have := h.1; clear hv; omega)]
    exact hz m (by clear hv; omega)
  · rw [getD_set, if_pos ⟨rfl, by simpa using hlen⟩, Int.toNat_natCast]
    exact p2
  · have s1 := val_set out (q + i) ((o + P % 4294967296 : Nat) : Int) (by clear hv; omega)
    have s2 := val_set (out.set (q + i) ((o + P % 4294967296 : Nat) : Int)) (q + i + 1) ((P / 4294967296 : Nat) : Int) (by simpa using hlen)
    rw [getD_set, if_neg (fun h => by have := h.1; clear hv s1 s2; omega), hz _ (Nat.le_refl _)] at s2
    rw [ho'] at s1
    rw [Int.toNat_natCast, Int.toNat_natCast] at s1
    rw [Int.toNat_natCast, Int.toNat_zero, Nat.mul_zero, Nat.add_zero] at s2
    have hm := Nat.mod_add_div P 4294967296
    clear h31 p1 p2 ho hg hlow hsum hhi hz hlen hx hxn c1 c2 e1 hd ho'
    generalize val ((out.set (q + i) ((o + P % 4294967296 : Nat) : Int)).set (q + i + 1) ((P / 4294967296 : Nat) : Int)) = W at s2 ⊢
    generalize val (out.set (q + i) ((o + P % 4294967296 : Nat) : Int)) = W1 at s1 s2
    rw [Nat.mul_add] at s1
    rw [Nat.pow_succ, Nat.mul_assoc] at s2
    generalize P % 4294967296 = lo at s1 hm
    generalize P / 4294967296 = hi at s2 hm
    rw [Nat.pow_add] at s1 s2
    exact shl_fin s1 s2 hv hm hPe

theorem Shl_loop (a : List Int) (ha : Dig a) (hn : a.length ≤ 100000000) (n q r : Nat) (hqr : n = 32 * q + r) (hr : r < 32) (hn2 : n ≤ 100000) :
    ∀ (d i : Nat) (out : List Int), d + i = a.length → out.length = q + a.length + 1 → Dig out → (∀ m, q + i + 1 ≤ m → out.getD m 0 = 0) → (out.getD (q + i) 0).toNat < 2 ^ r → val out = val (a.take i) * 2 ^ r * 4294967296 ^ q →
      Ev (fun k => nat_Shl.l0 k n out a a.length i) (dg (val a * 2 ^ n), true) := by
  intro d
  induction d with
  | zero =>
    intro i out hd ho hdo _ _ hv
    have e : i = a.length := by omega
    subst e
    have hv2 : val out = val a * 2 ^ n := by
      rw [hv, take_all_val, hqr, Nat.pow_add, Nat.pow_mul]
      grind
    rw [← hv2]
    clear hv hv2
    refine Ev.step (f := fun k => (nat_trim.f k out).bind fun t => some (t, true)) (fun k => ?_) (Ev.bind (f := fun _ t => some (t, true)) (trim_sp (by omega) hdo) (Ev.now _))
    simp only [nat_Shl.l0]
    rw [if_neg (Int.lt_irrefl _)]
  | succ d ih =>
    intro i out hd ho hdo hz hlow hv
    have hx := Dig_getD ha i
    have hlen : q + i + 1 < out.length := by clear hv; omega
    obtain ⟨s1, s2, s3, s4, s5⟩ := shl_step (V := val (a.take i)) hr hx hdo hlen hz hlow hv rfl rfl
    have key := ih (i + 1) _ (by clear hv s5; omega) (s1.trans ho) s2 (fun m hm => s3 m (by clear hv s5; omega)) s4 (by rw [s5, val_take_succ])
    refine Ev.step (fun k => ?_) key
    clear key ih hv s1 s2 s3 s4 s5 hz hlow
    have t1 : wrap64 (Int.tdiv (n : Int) 32) = (q : Nat) := by
      have : Int.tdiv (n : Int) 32 = ((n / 32 : Nat) : Int) := rfl
      rw [this, w64] <;> omega
    have t2 : Int.tmod (n : Int) 32 = (r : Nat) := by
      have : Int.tmod (n : Int) 32 = ((n % 32 : Nat) : Int) := rfl
      rw [this]; omega
    have t3 : wrap64 ((q : Int) + (i : Int)) = (q + i : Nat) := by clear t1 t2; rw [w64] <;> omega
    have t4 : wrap64 (((q + i : Nat) : Int) + 1) = (q + i + 1 : Nat) := by clear t1 t2 t3; rw [w64] <;> omega
    have t5 : wrap64 ((i : Int) + 1) = (i + 1 : Nat) := by clear t1 t2 t3 t4; rw [w64] <;> omega
    have f1 : (i : Int) < (a.length : Int) := by clear t1 t2 t3 t4; omega
    have f2 : (0 : Int) ≤ (i : Int) := Int.natCast_nonneg i
    have f3 : (0 : Int) ≤ (r : Int) := Int.natCast_nonneg r
    have f4 : (0 : Int) ≤ ((q + i : Nat) : Int) := Int.natCast_nonneg _
    have f5 : ((q + i : Nat) : Int) < (out.length : Int) := by clear t1 t2 t3 t4; omega
    have f6 : (0 : Int) ≤ ((q + i + 1 : Nat) : Int) := Int.natCast_nonneg _
    have f7 : ((q + i + 1 : Nat) : Int) < (out.length : Int) := by clear t1 t2 t3 t4; omega
    simp only [nat_Shl.l0]
    rw [if_pos f1, if_pos f2, if_pos f1, t2, if_pos f3, t1, t3, if_pos f4, if_pos f5, t4, if_pos f6, if_pos f7, t5, rd_nat, rd_nat, shl64 hx hr]
    rfl

theorem Shl_sp {l : List Int} {n : Int} (h : Dig l) (hl : l.length ≤ 100000000) :
    Ev (fun k => nat_Shl.f k l n) (if 0 ≤ n ∧ n ≤ 100000 then (dg (val l * 2 ^ n.toNat), true) else ([], false)) := by
  by_cases hb : 0 ≤ n ∧ n ≤ 100000
  · rw [if_pos hb]
    obtain ⟨m, rfl⟩ := Int.eq_ofNat_of_zero_le hb.1
    have hm : m ≤ 100000 := by omega
    rw [Int.toNat_natCast]
    have la := dg_len h
    have h0 := Shl_loop (dg (val l)) (Dig_dg _) (by omega) m (m / 32) (m % 32) (by omega) (by omega) hm (dg (val l)).length 0 (List.replicate (m / 32 + (dg (val l)).length + 1) 0) (by omega) (by simp) (Dig_zeros _) (fun q _ => by simp [List.getD_eq_getElem?_getD, List.getElem?_replicate]; split <;> rfl) (by
      have : (List.replicate (m / 32 + (dg (val l)).length + 1) (0 : Int)).getD (m / 32 + 0) 0 = 0 := by simp [List.getD_eq_getElem?_getD, List.getElem?_replicate]; split <;> rfl
      rw [this]; exact Nat.two_pow_pos _) (by rw [val_zeros, take_zero_val]; simp)
    rw [val_dg] at h0
    have t1 : wrap64 (Int.tdiv (m : Int) 32) = (m / 32 : Nat) := by
      have : Int.tdiv (m : Int) 32 = ((m / 32 : Nat) : Int) := rfl
      rw [this, w64] <;> omega
    have t3 : wrap64 (((m / 32 : Nat) : Int) + ((dg (val l)).length : Int)) = (m / 32 + (dg (val l)).length : Nat) := by rw [w64] <;> omega
    have t4 : wrap64 (((m / 32 + (dg (val l)).length : Nat) : Int) + 1) = (m / 32 + (dg (val l)).length + 1 : Nat) := by clear t1 t3; rw [w64] <;> omega
    refine Ev.congr (f := fun k => nat_Shl.j0 k l m false) (fun k => ?_) ?_
    · unfold nat_Shl.f
      rw [if_neg (by omega), decide_eq_false (by omega)]
    · refine Ev.step (f := ?F) (fun k => ?_) ?_
      rotate_left
      · simp only [nat_Shl.j0]
        rw [if_neg (by decide)]
      · refine Ev.bind (f := fun k t => _) (trim_sp (by omega) h) (Ev.congr (fun k => ?_) h0)
        rw [t1, t3, t4, if_pos (Int.natCast_nonneg _), if_pos (by clear t1 t3 t4; omega)]
        rfl
  · rw [if_neg hb]
    refine Ev.step (f := fun _ => some ([], false)) (fun k => ?_) (Ev.now _)
    unfold nat_Shl.f
    by_cases h0 : n < 0
    · rw [if_pos h0]; simp [nat_Shl.j0]
    · rw [if_neg h0, decide_eq_true (by omega)]; simp [nat_Shl.j0]

theorem pow32 (q : Nat) : (4294967296 : Nat) ^ q = 2 ^ (32 * q) := by rw [Nat.pow_mul]

/-- A list whose digits are a number's is that number, up to its length. -/
theorem val_of_digits (z : Nat) : ∀ (l : List Int), (∀ m, m < l.length → l.getD m 0 = ((z / 4294967296 ^ m % 4294967296 : Nat) : Int)) → val l = z % 4294967296 ^ l.length := by
  intro l
  induction l generalizing z with
  | nil => intro _; rw [List.length_nil, Nat.pow_zero, Nat.mod_one]; rfl
  | cons d l ih =>
    intro h
    have h0 := h 0 (by simp)
    have h1 := ih (z / 4294967296) (fun m hm => by
      have := h (m + 1) (by simpa using hm)
      rw [List.getD_cons_succ, Nat.pow_succ, Nat.mul_comm, ← Nat.div_div_eq_div_mul] at this
      exact this)
    rw [List.getD_cons_zero, Nat.pow_zero, Nat.div_one] at h0
    rw [val_cons, h1, h0, Int.toNat_natCast, List.length_cons, Nat.pow_succ, Nat.mul_comm (4294967296 ^ l.length), Nat.mod_mul]

theorem shr_digit {w i r : Nat} (hr : r < 32) : (w / 4294967296 ^ i % 4294967296 + 4294967296 * (w / 4294967296 ^ (i + 1) % 4294967296)) / 2 ^ r % 4294967296 = w / 2 ^ r / 4294967296 ^ i % 4294967296 := by
  have e0 : w / 4294967296 ^ (i + 1) = w / 4294967296 ^ i / 4294967296 := by rw [Nat.pow_succ, Nat.div_div_eq_div_mul]
  have e1 : w / 2 ^ r / 4294967296 ^ i = w / 4294967296 ^ i / 2 ^ r := by rw [Nat.div_div_eq_div_mul, Nat.div_div_eq_div_mul, Nat.mul_comm]
  rw [e0, e1]
  generalize w / 4294967296 ^ i = X
  have e2 : X % 4294967296 + 4294967296 * (X / 4294967296 % 4294967296) = X % (4294967296 * 4294967296) := by rw [Nat.mod_mul]
  rw [e2]
  have e3 : (4294967296 : Nat) = 2 ^ r * 2 ^ (32 - r) := by rw [← Nat.pow_add, show r + (32 - r) = 32 by omega]
  have e4 : ∀ Y, Y / 2 ^ r % 4294967296 = Y % (2 ^ r * 4294967296) / 2 ^ r := fun Y => by rw [Nat.mod_mul_right_div_self]
  rw [e4, e4 X, Nat.mod_mod_of_dvd]
  exact Nat.mul_dvd_mul_right ⟨2 ^ (32 - r), e3⟩ 4294967296

theorem shr64 {x : Int} {r : Nat} (hr : r < 32) : shr .u64 x (r : Int) = x / 2 ^ r := by
  unfold shr
  have hm : min ((r : Int).toNat) IntKind.u64.bits = r := by
    have : IntKind.u64.bits = 64 := rfl
    rw [this]; omega
  rw [hm]

theorem or64' {x y : Int} (hx : 0 ≤ x ∧ x < 4294967296) (hy : 0 ≤ y ∧ y < 4294967296) : Go.bits .or .u64 y (IntKind.u64.wrap (x * 4294967296)) = y + x * 4294967296 := by
  rw [u64 (x := x * 4294967296) (by omega) (by omega)]
  obtain ⟨a, rfl⟩ := Int.eq_ofNat_of_zero_le hx.1
  obtain ⟨b, rfl⟩ := Int.eq_ofNat_of_zero_le hy.1
  have ha : a < 4294967296 := by omega
  have hb : b < 4294967296 := by omega
  have e : (a : Int) * 4294967296 = ((a * 4294967296 : Nat) : Int) := by rw [Int.natCast_mul]; rfl
  have h := (bits_nat .u64 64 (by decide) (fun n h0 h1 => u64 h0 (by omega)) b (a * 4294967296) (by omega) (by omega)).2
  rw [e, h, or_low (r := 32) hb (Nat.mul_mod_left a 4294967296)]
  rw [Int.natCast_add]

theorem cast_shr (p q r : Nat) : ((p : Int) + (q : Int) * 4294967296) / 2 ^ r % 4294967296 = (((p + 4294967296 * q) / 2 ^ r % 4294967296 : Nat) : Int) := by
  have e : (p : Int) + (q : Int) * 4294967296 = ((p + 4294967296 * q : Nat) : Int) := by omega
  have e2 : (2 : Int) ^ r = ((2 ^ r : Nat) : Int) := by rw [Int.natCast_pow]; rfl
  rw [e, e2, ← Int.natCast_ediv]
  generalize (p + 4294967296 * q) / 2 ^ r = z
  omega

theorem Shr_loop (y : List Int) (hy : Dig y) (hn : y.length ≤ 100000000) (n r : Nat) (hr : n % 32 = r) (_hn2 : n ≤ 9223372036854775807) :
    ∀ (d i : Nat) (out : List Int), d + i = y.length → out.length = y.length → Dig out → (∀ m, m < i → out.getD m 0 = ((val y / 2 ^ r / 4294967296 ^ m % 4294967296 : Nat) : Int)) →
      Ev (fun k => nat_Shr.l0 k y n out y.length i) (dg (val y / 2 ^ r)) := by
  have hr32 : r < 32 := by omega
  intro d
  induction d with
  | zero =>
    intro i out hd ho hdo hv
    have e : i = y.length := by omega
    subst e
    have hl : val y / 2 ^ r < 4294967296 ^ y.length := Nat.lt_of_le_of_lt (Nat.div_le_self _ _) (val_lt hy)
    have h1 := val_of_digits (val y / 2 ^ r) out (fun m hm => hv m (by rw [← ho]; exact hm))
    rw [ho, Nat.mod_eq_of_lt hl] at h1
    rw [← h1]
    refine Ev.step (f := fun k => (nat_trim.f k out).bind fun t => some t) (fun k => ?_) (Ev.bind (f := fun _ t => some t) (trim_sp (by clear hv h1 hl; omega) hdo) (Ev.now _))
    simp only [nat_Shr.l0]
    rw [if_neg (Int.lt_irrefl _)]
  | succ d ih =>
    intro i out hd ho hdo hv
    have hi : i < y.length := by clear hv; omega
    have hx := Dig_getD hy i
    have hx1 := Dig_getD hy (i + 1)
    have key : ∀ v : Int, v = y.getD i 0 + y.getD (i + 1) 0 * 4294967296 → Ev (fun k => nat_Shr.l0 k y n (out.set i (v / 2 ^ r % 4294967296)) y.length (i + 1 : Nat)) (dg (val y / 2 ^ r)) := by
      intro v hve
      have hvd : v / 2 ^ r % 4294967296 = ((val y / 2 ^ r / 4294967296 ^ i % 4294967296 : Nat) : Int) := by
        rw [← shr_digit hr32, hve, getD_val hy i, getD_val hy (i + 1)]
        exact cast_shr _ _ _
      refine ih (i + 1) _ (by clear hv; omega) (by simpa using ho) (Dig_set hdo _ (mod_bd _)) (fun m hm => ?_)
      rw [getD_set]
      by_cases hmi : i = m
      · subst hmi
        rw [if_pos ⟨rfl, by rw [ho]; exact hi⟩]; exact hvd
      · rw [if_neg (fun h => hmi h.1)]; exact hv m (by clear hv; omega)
    clear ih hv
    have t2 : Int.tmod (n : Int) 32 = (r : Nat) := by
      have : Int.tmod (n : Int) 32 = ((n % 32 : Nat) : Int) := rfl
      rw [this]; omega
    have t5 : wrap64 ((i : Int) + 1) = (i + 1 : Nat) := by clear t2 key; rw [w64] <;> omega
    have f1 : (i : Int) < (y.length : Int) := by clear t2 key; omega
    have f2 : (0 : Int) ≤ (i : Int) := Int.natCast_nonneg i
    have f3 : (0 : Int) ≤ (r : Int) := Int.natCast_nonneg r
    have f4 : (0 : Int) ≤ ((i + 1 : Nat) : Int) := Int.natCast_nonneg _
    have f5 : (i : Int) < (out.length : Int) := by clear t2 key; omega
    by_cases h1 : i + 1 < y.length
    · refine Ev.step (fun k => ?_) (key _ rfl)
      simp only [nat_Shr.l0]
      rw [if_pos f1, if_pos f2, if_pos f1, t5, if_pos (Int.ofNat_lt.2 h1), if_pos f4, t2, if_pos f3, if_pos f5, rd_nat, rd_nat, dig64 hx, dig64 hx1, or64' hx1 hx, shr64 hr32]
      rfl
    · have hz : y.getD (i + 1) 0 = 0 := getD_ge y (by clear t2 key; omega)
      refine Ev.step (fun k => ?_) (key (y.getD i 0) (by rw [hz, Int.zero_mul, Int.add_zero]))
      simp only [nat_Shr.l0]
      rw [if_pos f1, if_pos f2, if_pos f1, t5, if_neg (fun h => h1 (Int.ofNat_lt.1 h)), t2, if_pos f3, if_pos f5, rd_nat, dig64 hx, shr64 hr32]
      rfl

theorem val_drop (l : List Int) (h : Dig l) (q : Nat) : val (l.drop q) = val l / 4294967296 ^ q := by
  by_cases hq : q ≤ l.length
  · have h1 := val_split l q
    rw [Nat.min_eq_left hq] at h1
    have h2 := val_lt (Dig_take h q)
    rw [List.length_take, Nat.min_eq_left hq] at h2
    rw [h1, Nat.add_mul_div_left _ _ (pow_pos' q), Nat.div_eq_of_lt h2, Nat.zero_add]
  · rw [List.drop_eq_nil_of_le (by omega), Nat.div_eq_of_lt]
    · rfl
    · exact Nat.lt_of_lt_of_le (val_lt h) (Nat.pow_le_pow_right (by omega) (by omega))

theorem div_two_pow (v n : Nat) : v / 2 ^ n = v / 4294967296 ^ (n / 32) / 2 ^ (n % 32) := by
  rw [pow32, Nat.div_div_eq_div_mul, ← Nat.pow_add, Nat.div_add_mod]

theorem Shr_sp {l : List Int} {n : Int} (h : Dig l) (hl : l.length ≤ 100000000) (hn : n ≤ 9223372036854775807) :
    Ev (fun k => nat_Shr.f k l n) (if n < 0 then dg (val l) else dg (val l / 2 ^ n.toNat)) := by
  refine Ev.bind (f := fun k t => _) (trim_sp (by omega) h) ?_
  have la := dg_len h
  by_cases h0 : n < 0
  · rw [if_pos h0]
    refine Ev.congr (f := fun _ => some (dg (val l))) (fun k => ?_) (Ev.now _)
    rw [if_pos h0]
    unfold slices_Clone_uint32_uint32.f
    rw [if_pos (by omega)]
    rfl
  rw [if_neg h0]
  obtain ⟨m, rfl⟩ := Int.eq_ofNat_of_zero_le (show 0 ≤ n by omega)
  rw [Int.toNat_natCast, div_two_pow]
  have t1 : wrap64 (Int.tdiv (m : Int) 32) = (m / 32 : Nat) := by
    have : Int.tdiv (m : Int) 32 = ((m / 32 : Nat) : Int) := rfl
    rw [this, w64] <;> omega
  by_cases h1 : (dg (val l)).length ≤ m / 32
  · have hz : val l / 4294967296 ^ (m / 32) = 0 := Nat.div_eq_of_lt (lt_of_dg_length h1)
    rw [hz, Nat.zero_div, dg_zero]
    refine Ev.congr (f := fun _ => some []) (fun k => ?_) (Ev.now _)
    rw [if_neg h0, t1, if_pos (by omega)]
  · have hd : Dig ((dg (val l)).drop (m / 32)) := Dig_drop (Dig_dg _) _
    have hlen : ((dg (val l)).drop (m / 32)).length ≤ 100000000 := by rw [List.length_drop]; omega
    have h2 := Shr_loop ((dg (val l)).drop (m / 32)) hd hlen m (m % 32) rfl (by omega) ((dg (val l)).drop (m / 32)).length 0 (List.replicate ((dg (val l)).drop (m / 32)).length 0) (by omega) (by simp) (Dig_zeros _) (fun m hm => absurd hm (by omega))
    rw [val_drop _ (Dig_dg _), val_dg] at h2
    refine Ev.congr (fun k => ?_) h2
    rw [if_neg h0, t1, if_neg (by omega), if_pos (Int.natCast_nonneg _), if_pos (by omega)]
    simp only [Option.bind_some]
    rw [Int.toNat_natCast, if_pos (Int.natCast_nonneg _), if_pos (by rw [Int.toNat_natCast]; omega)]
    rfl

theorem Ev.ifp {α : Type} {c : Prop} [Decidable c] {f g : Nat → Option α} {r : α} (h : c) (k : Ev f r) : Ev (fun n => if c then f n else g n) r := Ev.congr (fun _ => if_pos h) k

theorem Ev.ifn {α : Type} {c : Prop} [Decidable c] {f g : Nat → Option α} {r : α} (h : ¬ c) (k : Ev g r) : Ev (fun n => if c then f n else g n) r := Ev.congr (fun _ => if_neg h) k

/-- A list of digits that is worth x, of at most n digits. -/
structure Nm (l : List Int) (x n : Nat) : Prop where
  dig : Dig l
  val : val l = x
  len : l.length ≤ n

theorem Nm.lt {l : List Int} {x n : Nat} (h : Nm l x n) : x < 4294967296 ^ n := by
  have := val_lt h.dig
  rw [h.val] at this
  exact Nat.lt_of_lt_of_le this (Nat.pow_le_pow_right (by decide) h.len)

theorem Nm.of {x n : Nat} (h : x < 4294967296 ^ n) : Nm (dg x) x n := ⟨Dig_dg x, val_dg x, dg_length_le h⟩

theorem Nm.dg {l : List Int} {x n : Nat} (h : Nm l x n) : Nm (dg x) x n := Nm.of h.lt

theorem Nm.mono {l : List Int} {x n m : Nat} (h : Nm l x n) (hm : n ≤ m) : Nm l x m := ⟨h.dig, h.val, Nat.le_trans h.len hm⟩

theorem Nm.le {x y n : Nat} {l : List Int} (h : Nm l x n) (hy : y ≤ x) : Nm (Num.dg y) y n := Nm.of (Nat.lt_of_le_of_lt hy h.lt)

theorem pow_le {n m : Nat} (h : n ≤ m) : 4294967296 ^ n ≤ 4294967296 ^ m := Nat.pow_le_pow_right (by decide) h

theorem add_lt {x y n m k : Nat} (hx : x < 4294967296 ^ n) (hy : y < 4294967296 ^ m) (hn : n + 1 ≤ k) (hm : m + 1 ≤ k) : x + y < 4294967296 ^ k := by
  obtain ⟨j, rfl⟩ : ∃ j, k = j + 1 := ⟨k - 1, by omega⟩
  have h1 := Nat.lt_of_lt_of_le hx (pow_le (show n ≤ j by omega))
  have h2 := Nat.lt_of_lt_of_le hy (pow_le (show m ≤ j by omega))
  rw [Nat.pow_succ]
  generalize 4294967296 ^ j = p at h1 h2
  clear hx hy
  omega

theorem Nm.add {a b : List Int} {x y n m k : Nat} (ha : Nm a x n) (hb : Nm b y m) (hn : n + 1 ≤ k) (hm : m + 1 ≤ k) : Nm (Num.dg (x + y)) (x + y) k := Nm.of (add_lt ha.lt hb.lt hn hm)

theorem mul_lt {x y n m : Nat} (hx : x < 4294967296 ^ n) (hy : y < 4294967296 ^ m) : x * y < 4294967296 ^ (n + m) := by
  rw [Nat.pow_add]
  exact Nat.mul_lt_mul'' hx hy

theorem Nm.mul {a b : List Int} {x y n m : Nat} (ha : Nm a x n) (hb : Nm b y m) : Nm (Num.dg (x * y)) (x * y) (n + m) := Nm.of (mul_lt ha.lt hb.lt)

theorem Nm.shl {a : List Int} {x n s : Nat} (ha : Nm a x n) : Nm (Num.dg (x * 2 ^ s)) (x * 2 ^ s) (n + (s / 32 + 1)) := by
  refine Nm.of ?_
  rw [Nat.pow_add]
  refine Nat.mul_lt_mul'' ha.lt ?_
  rw [pow32]
  exact Nat.pow_lt_pow_right (by decide) (by omega)

theorem Trim_n {a : List Int} {x n : Nat} (ha : Nm a x n) (hn : n ≤ 100000000) : Ev (fun k => nat_Trim.f k a) (dg x) :=
  Ev.eq (Trim_sp (Nat.le_trans ha.len (Nat.le_trans hn (by decide))) ha.dig) (by rw [ha.val])

theorem Add_n {a b : List Int} {x y n m : Nat} (ha : Nm a x n) (hb : Nm b y m) (hn : n ≤ 100000000) (hm : m ≤ 100000000) : Ev (fun k => nat_Add.f k a b) (dg (x + y)) :=
  Ev.eq (Add_sp ha.dig hb.dig (Nat.le_trans ha.len hn) (Nat.le_trans hb.len hm)) (by rw [ha.val, hb.val])

theorem Mul_n {a b : List Int} {x y n m : Nat} (ha : Nm a x n) (hb : Nm b y m) (hn : n ≤ 100000000) (hm : m ≤ 100000000) : Ev (fun k => nat_Mul.f k a b) (dg (x * y)) :=
  Ev.eq (Mul_sp ha.dig hb.dig (Nat.le_trans ha.len hn) (Nat.le_trans hb.len hm)) (by rw [ha.val, hb.val])

theorem Cmp_n {a b : List Int} {x y n m : Nat} (ha : Nm a x n) (hb : Nm b y m) (hn : n ≤ 100000000) (hm : m ≤ 100000000) : Ev (fun k => nat_Cmp.f k a b) (cmp x y) :=
  Ev.eq (Cmp_sp ha.dig hb.dig (Nat.le_trans ha.len hn) (Nat.le_trans hb.len hm)) (by rw [ha.val, hb.val])

theorem Sub_n {a b : List Int} {x y n m : Nat} (ha : Nm a x n) (hb : Nm b y m) (hn : n ≤ 100000000) (hm : m ≤ 100000000) : Ev (fun k => nat_Sub.f k a b) (if y ≤ x then (dg (x - y), true) else ([], false)) :=
  Ev.eq (Sub_sp ha.dig hb.dig (Nat.le_trans ha.len hn) (Nat.le_trans hb.len hm)) (by rw [ha.val, hb.val])

theorem Sub_y {a b : List Int} {x y n m : Nat} (ha : Nm a x n) (hb : Nm b y m) (hn : n ≤ 100000000) (hm : m ≤ 100000000) (h : y ≤ x) : Ev (fun k => nat_Sub.f k a b) (dg (x - y), true) :=
  Ev.eq (Sub_n ha hb hn hm) (if_pos h)

theorem Bits_n {a : List Int} {x n : Nat} (ha : Nm a x n) (hn : n ≤ 10000000) : Ev (fun k => nat_Bits.f k a) (bl x : Int) :=
  Ev.eq (Bits_sp (Nat.le_trans ha.len hn) ha.dig) (by rw [ha.val])

theorem Shl_n {a : List Int} {x n s : Nat} (ha : Nm a x n) (hn : n ≤ 100000000) (hs : s ≤ 100000) : Ev (fun k => nat_Shl.f k a s) (dg (x * 2 ^ s), true) :=
  Ev.eq (Shl_sp ha.dig (Nat.le_trans ha.len hn)) (by rw [if_pos ⟨Int.natCast_nonneg s, by omega⟩, ha.val, Int.toNat_natCast])

theorem Shr_n {a : List Int} {x n s : Nat} (ha : Nm a x n) (hn : n ≤ 100000000) (hs : s ≤ 100000) : Ev (fun k => nat_Shr.f k a s) (dg (x / 2 ^ s)) :=
  Ev.eq (Shr_sp ha.dig (Nat.le_trans ha.len hn) (by omega)) (by rw [if_neg (Int.not_lt.2 (Int.natCast_nonneg s)), ha.val, Int.toNat_natCast])

/-- An argument, cut to its first N digits. -/
theorem cut_ok (l : List Int) (N : Int) (h : 0 ≤ N) : 0 ≤ mn (l.length : Int) N ∧ mn (l.length : Int) N ≤ (l.length : Int) ∧ mn (l.length : Int) N ≤ N := by
  unfold mn
  split <;> omega

theorem Dig_wf {l : List Int} (h : ∀ x ∈ l, (Lit.int .u32 x).wf = true) : Dig l := by
  intro x hx
  have := h x hx
  simp only [Lit.wf, IntKind.min, IntKind.max, IntKind.signed, IntKind.bits, Bool.and_eq_true] at this
  simp at this
  omega

theorem cut_nm {l : List Int} (h : ∀ x ∈ l, (Lit.int .u32 x).wf = true) (N : Int) (n : Nat) (hN : N = n) : Nm (l.take (mn (l.length : Int) N).toNat) (val (l.take (mn (l.length : Int) N).toNat)) n :=
  ⟨Dig_take (Dig_wf h) _, rfl, by
    have := (cut_ok l N (by omega)).2.2
    rw [List.length_take]; omega⟩

theorem nm1 {d : Int} (h : 0 ≤ d ∧ d < 4294967296) : Nm [d] d.toNat 1 := ⟨by intro x hx; simp at hx; omega, by rw [val_cons, val_nil, Nat.mul_zero, Nat.add_zero], by simp⟩

theorem nm3 {d e f : Int} (h : 0 ≤ d ∧ d < 4294967296) (h' : 0 ≤ e ∧ e < 4294967296) (h'' : 0 ≤ f ∧ f < 4294967296) : Nm [d, e, f] (d.toNat + 4294967296 * (e.toNat + 4294967296 * f.toNat)) 3 := ⟨by intro x hx; simp at hx; omega, by simp [val], by simp⟩

theorem dg2 {x : Nat} {d e : Nat} (h : x = d + 4294967296 * e) (hd : d < 4294967296) (he : e < 4294967296) (h0 : e ≠ 0) : dg x = [(d : Int), (e : Int)] := by
  rw [dg_pos (by omega), show x % 4294967296 = d by omega, show x / 4294967296 = e by omega, dg_one h0 he]

theorem tdivn (a b : Nat) : Int.tdiv (a : Int) (b : Int) = ((a / b : Nat) : Int) := rfl

theorem tmodn (a b : Nat) : Int.tmod (a : Int) (b : Int) = ((a % b : Nat) : Int) := rfl

theorem or64n {a b : Nat} (ha : a < 4294967296) (hb : b < 4294967296) : Go.bits .or .u64 (IntKind.u64.wrap (IntKind.u64.wrap (a : Int) * 4294967296)) (IntKind.u64.wrap (b : Int)) = ((a * 4294967296 + b : Nat) : Int) := by
  rw [u64 (x := (a : Int)) (by omega) (by omega), u64 (x := (b : Int)) (by omega) (by omega), u64 (by omega) (by omega), or64 (by omega) (by omega)]
  omega

theorem div_lt_base {x l d : Nat} (hx : x < d) (hl : l < 4294967296) : (x * 4294967296 + l) / d < 4294967296 := by
  apply Nat.div_lt_of_lt_mul
  have := Nat.mul_le_mul_right 4294967296 (show x + 1 ≤ d from hx)
  omega

theorem Div32_eq {x l d : Nat} (hd : d < 4294967296) (hx : x < d) (hl : l < 4294967296) :
    bits_Div32.f (x : Int) (l : Int) (d : Int) = some ((((x * 4294967296 + l) / d : Nat) : Int), (((x * 4294967296 + l) % d : Nat) : Int)) := by
  have hq := div_lt_base hx hl
  have hr : (x * 4294967296 + l) % d < 4294967296 := Nat.lt_trans (Nat.mod_lt _ (by omega)) hd
  unfold bits_Div32.f
  rw [if_neg (by omega), if_neg (by omega), or64n (by omega) hl, u64 (x := (d : Int)) (by omega) (by omega), if_neg (by omega), tdivn, tmodn]
  generalize (x * 4294967296 + l) / d = q at hq ⊢
  generalize (x * 4294967296 + l) % d = r at hr ⊢
  rw [u64 (by omega) (by omega)]
  congr 2
  · omega
  · omega

theorem short_digit {X l d : Nat} (hd : 0 < d) (hl : l < 4294967296) : (X % d * 4294967296 + l) / d = (X * 4294967296 + l) / d % 4294967296 ∧ (X % d * 4294967296 + l) % d = (X * 4294967296 + l) % d := by
  have e : X * 4294967296 + l = d * (X / d * 4294967296) + (X % d * 4294967296 + l) := by
    have h := Nat.div_add_mod X d
    have : d * (X / d * 4294967296) + X % d * 4294967296 = (d * (X / d) + X % d) * 4294967296 := by rw [Nat.add_mul, Nat.mul_assoc]
    rw [← Nat.add_assoc, this, h]
  have hq := div_lt_base (Nat.mod_lt X hd) hl
  rw [e]
  constructor
  · rw [Nat.mul_add_div hd]
    clear e
    generalize (X % d * 4294967296 + l) / d = q at hq ⊢
    generalize X / d = Y
    omega
  · rw [Nat.mul_add_mod]

theorem Dig_of {l : List Int} (h : ∀ j, j < l.length → 0 ≤ l.getD j 0 ∧ l.getD j 0 < 4294967296) : Dig l := by
  intro x hx
  obtain ⟨j, hj, rfl⟩ := List.mem_iff_getElem.1 hx
  have := h j hj
  rw [getD_lt l hj] at this
  exact this

theorem nat_mod_bd (n : Nat) : 0 ≤ ((n % 4294967296 : Nat) : Int) ∧ ((n % 4294967296 : Nat) : Int) < 4294967296 := by omega

theorem short_loop {a : List Int} (ha : Dig a) {d : Nat} (hd0 : 0 < d) (hd : d < 4294967296) (hn : a.length ≤ 100000000) :
    ∀ (m i : Nat) (q : List Int), m + i = a.length → q.length = a.length → (∀ j, m ≤ j → j < a.length → q.getD j 0 = ((val a / d / 4294967296 ^ j % 4294967296 : Nat) : Int)) →
      Ev (fun k => quo_short.l0 k a (d : Int) q ((val a / 4294967296 ^ m % d : Nat) : Int) (a.length : Int) (i : Int)) (dg (val a / d), dg (val a % d), true) := by
  intro m
  induction m with
  | zero =>
    intro i q hi hq hdig
    have e : i = a.length := by omega
    subst e
    have hdq : Dig q := Dig_of (fun j hj => by rw [hdig j (Nat.zero_le _) (by omega)]; exact nat_mod_bd _)
    have hv : val q = val a / d := by
      rw [val_of_digits (val a / d) q (fun j hj => hdig j (Nat.zero_le _) (by omega)), hq]
      exact Nat.mod_eq_of_lt (Nat.lt_of_le_of_lt (Nat.div_le_self _ _) (val_lt ha))
    have hr : val a % d < d := Nat.mod_lt _ hd0
    rw [Nat.pow_zero, Nat.div_one]
    have hT : Ev (fun k => nat_Trim.f k q) (dg (val a / d)) := Ev.eq (Trim_sp (by omega) hdq) (by rw [hv])
    clear hdig hv
    generalize val a % d = r at hr
    have hF : Ev (fun k => nat_From.f k (IntKind.u64.wrap (r : Int))) (dg r) := by
      rw [u64 (by omega) (by omega)]
      exact Ev.eq (From_sp (by omega) (by omega)) (by rw [Int.toNat_natCast])
    refine Ev.step (f := ?F) (fun k => ?_) ?_
    rotate_left
    · simp only [quo_short.l0]
      rw [if_neg (Int.lt_irrefl _)]
    exact Ev.bind (f := fun k t => _) hT (Ev.bind (f := fun k t => some (dg (val a / d), t, true)) hF (Ev.now _))
  | succ m ih =>
    intro i q hi hq hdig
    have hw : wrap64 (wrap64 ((a.length : Int) - 1) - (i : Int)) = (m : Int) := by rw [w64 (x := (a.length : Int) - 1) (by omega) (by omega), w64] <;> omega
    have hw2 : wrap64 ((i : Int) + 1) = ((i + 1 : Nat) : Int) := by rw [w64] <;> omega
    have hm : m < a.length := by omega
    have i1 : (i : Int) < (a.length : Int) := by omega
    have i2 : (m : Int) < (a.length : Int) := by omega
    have i3 : (m : Int) < (q.length : Int) := by omega
    have i4 : m + (i + 1) = a.length := by omega
    have hx : val a / 4294967296 ^ (m + 1) % d < d := Nat.mod_lt _ hd0
    have hl : val a / 4294967296 ^ m % 4294967296 < 4294967296 := Nat.mod_lt _ (by decide)
    obtain ⟨s1, s2⟩ := short_digit (X := val a / 4294967296 ^ (m + 1)) hd0 hl
    rw [← div_step] at s1 s2
    have hD := Div32_eq hd hx hl
    rw [s1, s2, show val a / 4294967296 ^ m / d = val a / d / 4294967296 ^ m by rw [Nat.div_div_eq_div_mul, Nat.div_div_eq_div_mul, Nat.mul_comm]] at hD
    have key := ih (i + 1) (q.set m ((val a / d / 4294967296 ^ m % 4294967296 : Nat) : Int)) i4 (by rw [List.length_set]; exact hq) (fun j hj hj2 => by
      rw [getD_set]
      by_cases h : m = j
      · subst h; rw [if_pos ⟨rfl, by omega⟩]
      · rw [if_neg (fun h2 => h h2.1)]; exact hdig j (by omega) hj2)
    refine Ev.step (fun k => ?_) key
    clear key ih hdig s1 s2
    simp only [quo_short.l0]
    rw [if_pos i1, hw, if_pos (Int.natCast_nonneg _), if_pos i2, rd_nat, getD_val ha, hD]
    simp only [Option.bind_some]
    rw [if_pos i3, hw2, Int.toNat_natCast]

theorem short_sp {a : List Int} (ha : Dig a) {d : Nat} (hd0 : 0 < d) (hd : d < 4294967296) (hn : a.length ≤ 100000000) :
    Ev (fun k => quo_short.f k a (d : Int)) (dg (val a / d), dg (val a % d), true) := by
  have h0 := short_loop ha hd0 hd hn a.length 0 (List.replicate a.length 0) (by omega) (by simp) (fun j h1 h2 => by omega)
  rw [Nat.div_eq_of_lt (val_lt ha), Nat.zero_mod] at h0
  refine Ev.congr (fun k => ?_) h0
  unfold quo_short.f
  rw [if_pos (Int.natCast_nonneg _), Int.toNat_natCast, if_pos (by omega)]
  rfl

theorem Sub32_n {x y w : Nat} (hx : x < 4294967296) (hy : y < 4294967296) (hw : w ≤ 1) : ∃ z t : Nat, bits_Sub32.f (x : Int) (y : Int) (w : Int) = some ((z : Int), (t : Int)) ∧ z < 4294967296 ∧ t ≤ 1 ∧ z + y + w = x + 4294967296 * t := by
  refine ⟨(((x : Int) - y - w) % 4294967296).toNat, if x < y + w then 1 else 0, ?_, by omega, by split <;> omega, by split <;> omega⟩
  rw [Sub32_eq (by omega) (by omega) (by omega)]
  congr 2
  · omega
  · split <;> split <;> omega

theorem Add32_n {x y w : Nat} (hx : x < 4294967296) (hy : y < 4294967296) (hw : w ≤ 1) : ∃ z t : Nat, bits_Add32.f (x : Int) (y : Int) (w : Int) = some ((z : Int), (t : Int)) ∧ z < 4294967296 ∧ t ≤ 1 ∧ z + 4294967296 * t = x + y + w := by
  refine ⟨(x + y + w) % 4294967296, (x + y + w) / 4294967296, ?_, by omega, by omega, by omega⟩
  rw [Add32_eq (by omega) (by omega) (by omega)]
  congr 2

theorem dig_nat {l : List Int} (h : Dig l) (i : Nat) : ∃ x : Nat, l.getD i 0 = (x : Int) ∧ x < 4294967296 := by
  have := Dig_getD h i
  exact ⟨(l.getD i 0).toNat, by omega, by omega⟩

theorem take_alg {U U' W V P ui z low w t c c' bi g : Nat} (h : U + W = V + P * (c + w)) (hs : U' + P * ui = U + P * z) (h1 : z + low + w = ui + 4294967296 * t) (h2 : bi * g + c = low + 4294967296 * c') :
    U' + (W + g * (P * bi)) = V + P * 4294967296 * (c' + t) := by
  have a1 : P * z + P * low + P * w = P * ui + P * (4294967296 * t) := by rw [← Nat.mul_add, ← Nat.mul_add, h1, Nat.mul_add]
  have a2 : P * (bi * g) + P * c = P * low + P * (4294967296 * c') := by rw [← Nat.mul_add, h2, Nat.mul_add]
  have a3 : g * (P * bi) = P * (bi * g) := by rw [Nat.mul_left_comm, Nat.mul_comm g bi]
  have a4 : P * 4294967296 * (c' + t) = P * (4294967296 * c') + P * (4294967296 * t) := by rw [Nat.mul_assoc, Nat.mul_add, Nat.mul_add]
  rw [Nat.mul_add] at h
  rw [a3, a4]
  clear h1 h2 a3 a4
  generalize P * z = p1 at *
  generalize P * low = p2 at *
  generalize P * w = p3 at *
  generalize P * ui = p4 at *
  generalize P * (4294967296 * t) = p5 at *
  generalize P * (bi * g) = p6 at *
  generalize P * c = p7 at *
  generalize P * (4294967296 * c') = p8 at *
  omega

theorem take_loop {b : List Int} (hb : Dig b) {g V : Nat} (hg : g < 4294967296) (hlb : b.length ≤ 100000000) :
    ∀ (d i : Nat) (u : List Int) (c w : Nat), d + i = b.length → u.length = b.length + 1 → Dig u → c < 4294967296 → w ≤ 1 → val u + g * val (b.take i) = V + 4294967296 ^ i * (c + w) →
      ∃ (R : List Int) (t : Nat), Ev (fun k => quo_take.l0 k u b (g : Int) (c : Int) (w : Int) b (b.length : Int) (i : Int)) (decide (t = 1), R) ∧ t ≤ 1 ∧ R.length = b.length + 1 ∧ Dig R ∧ val R + g * val b = V + 4294967296 ^ (b.length + 1) * t := by
  intro d
  induction d with
  | zero =>
    intro i u c w hd hu hdu hc hw hv
    have e : i = b.length := by omega
    subst e
    rw [take_all_val] at hv
    obtain ⟨x, hx, hxl⟩ := dig_nat hdu b.length
    obtain ⟨z, t, hS, hz, ht, hzt⟩ := Sub32_n hxl hc hw
    have hs := val_set u b.length (z : Int) (by omega)
    rw [hx, Int.toNat_natCast, Int.toNat_natCast] at hs
    refine ⟨u.set b.length (z : Int), t, ?_, ht, by rw [List.length_set]; exact hu, Dig_set hdu _ (by omega), ?_⟩
    · refine Ev.step (f := fun _ => some (decide (t = 1), u.set b.length (z : Int))) (fun k => ?_) (Ev.now _)
      clear hv hs
      have hcm : (c : Int) % 4294967296 = (c : Int) := by omega
      have i2 : (b.length : Int) < (u.length : Int) := by omega
      have e1 : (decide ((t : Int) > 0)) = decide (t = 1) := by
        rcases (show t = 0 ∨ t = 1 by omega) with rfl | rfl <;> rfl
      simp only [quo_take.l0]
      rw [if_neg (Int.lt_irrefl _), if_pos (Int.natCast_nonneg _), if_pos i2, rd_nat, hx, hcm, hS]
      simp only [Option.bind_some]
      rw [e1, Int.toNat_natCast]
    · have := take_alg (g := 0) (bi := 0) (c' := 0) (W := g * val b) (low := c) hv hs hzt (by omega)
      rw [Nat.pow_succ]
      rw [Nat.zero_mul, Nat.add_zero, Nat.zero_add] at this
      exact this
  | succ d ih =>
    intro i u c w hd hu hdu hc hw hv
    obtain ⟨x, hx, hxl⟩ := dig_nat hdu i
    obtain ⟨y, hy, hyl⟩ := dig_nat hb i
    have hm : y * g ≤ 4294967295 * 4294967295 := Nat.mul_le_mul (by omega) (by omega)
    obtain ⟨s, hse⟩ : ∃ s, s = y * g + c := ⟨_, rfl⟩
    have hcast : (y : Int) * (g : Int) = ((y * g : Nat) : Int) := (Int.natCast_mul y g).symm
    have hsl : s < 18446744073709551616 := by
      generalize y * g = p at hm hse
      omega
    have hpl : y * g < 18446744073709551616 := by
      generalize y * g = p at hm
      omega
    have hlow : s % 4294967296 < 4294967296 := Nat.mod_lt _ (by decide)
    have hhi : s / 4294967296 < 4294967296 := by clear hse hm hpl; omega
    obtain ⟨z, t, hS, hz, ht, hzt⟩ := Sub32_n hxl hlow hw
    have hs := val_set u i (z : Int) (by omega)
    rw [hx, Int.toNat_natCast, Int.toNat_natCast] at hs
    have ha := take_alg (g := g) (bi := y) (c' := s / 4294967296) (W := g * val (b.take i)) hv hs hzt (by rw [← hse]; exact (Nat.mod_add_div s 4294967296).symm)
    obtain ⟨R, t', hR, r1, r2, r3, r4⟩ := ih (i + 1) (u.set i (z : Int)) (s / 4294967296) t (by omega) (by rw [List.length_set]; exact hu) (Dig_set hdu _ (by omega)) hhi ht (by
      rw [val_take_succ, hy, Int.toNat_natCast, Nat.mul_add, Nat.pow_succ]
      exact ha)
    refine ⟨R, t', ?_, r1, r2, r3, r4⟩
    refine Ev.step (fun k => ?_) hR
    clear ha hs hv hR r4
    have i1 : (i : Int) < (b.length : Int) := by omega
    have i2 : (i : Int) < (u.length : Int) := by omega
    have hw2 : wrap64 ((i : Int) + 1) = ((i + 1 : Nat) : Int) := by rw [w64] <;> omega
    have g1 : IntKind.u64.wrap (IntKind.u64.wrap (IntKind.u64.wrap (y : Int) * (g : Int)) + (c : Int)) = (s : Int) := by
      rw [u64 (x := (y : Int)) (by omega) (by omega), hcast]
      generalize y * g = p at hse hpl
      rw [u64 (x := (p : Int)) (by omega) (by omega), u64 (by omega) (by omega)]
      omega
    have g2 : (s : Int) % 4294967296 = ((s % 4294967296 : Nat) : Int) := by omega
    have g3 : (s : Int) / 4294967296 = ((s / 4294967296 : Nat) : Int) := by omega
    simp only [quo_take.l0]
    rw [if_pos i1, if_pos (Int.natCast_nonneg _), if_pos i1, if_pos i2, rd_nat, rd_nat, hx, hy, g1, g2, g3, hS]
    simp only [Option.bind_some]
    rw [hw2, Int.toNat_natCast]

theorem take_sp {u b : List Int} (hu : Dig u) (hb : Dig b) {g : Nat} (hg : g < 4294967296) (hl : u.length = b.length + 1) (hlb : b.length ≤ 100000000) :
    ∃ (R : List Int) (t : Nat), Ev (fun k => quo_take.f k u b (g : Int)) (decide (t = 1), R) ∧ t ≤ 1 ∧ R.length = b.length + 1 ∧ Dig R ∧ val R + g * val b = val u + 4294967296 ^ (b.length + 1) * t :=
  take_loop hb (V := val u) hg hlb b.length 0 u 0 0 rfl hl hu (by decide) (by decide) (by rw [take_zero_val, Nat.mul_zero, Nat.mul_zero])

theorem give_alg {U U' W V P ui z w t bi : Nat} (h : U + P * w = V + W) (hs : U' + P * ui = U + P * z) (h1 : z + 4294967296 * t = ui + bi + w) :
    U' + P * 4294967296 * t = V + (W + P * bi) := by
  have a1 : P * z + P * (4294967296 * t) = P * ui + P * bi + P * w := by rw [← Nat.mul_add, h1, Nat.mul_add, Nat.mul_add]
  rw [Nat.mul_assoc]
  clear h1
  generalize P * z = p1 at *
  generalize P * w = p3 at *
  generalize P * ui = p4 at *
  generalize P * (4294967296 * t) = p5 at *
  generalize P * bi = p6 at *
  omega

theorem give_loop {b : List Int} (hb : Dig b) {V : Nat} (hlb : b.length ≤ 100000000) :
    ∀ (d i : Nat) (u : List Int) (w : Nat), d + i = b.length → u.length = b.length + 1 → Dig u → w ≤ 1 → val u + 4294967296 ^ i * w = V + val (b.take i) →
      ∃ (R : List Int) (t : Nat), Ev (fun k => quo_give.l0 k u b (w : Int) b (b.length : Int) (i : Int)) R ∧ t ≤ 1 ∧ R.length = b.length + 1 ∧ Dig R ∧ val R + 4294967296 ^ (b.length + 1) * t = V + val b := by
  intro d
  induction d with
  | zero =>
    intro i u w hd hu hdu hw hv
    have e : i = b.length := by omega
    subst e
    rw [take_all_val] at hv
    obtain ⟨x, hx, hxl⟩ := dig_nat hdu b.length
    have hs := val_set u b.length (((x + w) % 4294967296 : Nat) : Int) (by omega)
    rw [hx, Int.toNat_natCast, Int.toNat_natCast] at hs
    refine ⟨u.set b.length (((x + w) % 4294967296 : Nat) : Int), (x + w) / 4294967296, ?_, by clear hv hs; omega, by rw [List.length_set]; exact hu, Dig_set hdu _ (nat_mod_bd _), ?_⟩
    · refine Ev.step (f := fun _ => some (u.set b.length (((x + w) % 4294967296 : Nat) : Int))) (fun k => ?_) (Ev.now _)
      clear hv hs
      have i2 : (b.length : Int) < (u.length : Int) := by omega
      have hcm : ((x : Int) + (w : Int)) % 4294967296 = (((x + w) % 4294967296 : Nat) : Int) := by omega
      simp only [quo_give.l0]
      rw [if_neg (Int.lt_irrefl _), if_pos (Int.natCast_nonneg _), if_pos i2, rd_nat, hx, hcm, Int.toNat_natCast]
    · have := give_alg (bi := 0) (t := (x + w) / 4294967296) hv hs (by clear hv hs; omega)
      rw [Nat.mul_zero, Nat.add_zero] at this
      rw [Nat.pow_succ]
      exact this
  | succ d ih =>
    intro i u w hd hu hdu hw hv
    obtain ⟨x, hx, hxl⟩ := dig_nat hdu i
    obtain ⟨y, hy, hyl⟩ := dig_nat hb i
    obtain ⟨z, t, hS, hz, ht, hzt⟩ := Add32_n hxl hyl hw
    have hs := val_set u i (z : Int) (by omega)
    rw [hx, Int.toNat_natCast, Int.toNat_natCast] at hs
    have ha := give_alg hv hs hzt
    obtain ⟨R, t', hR, r1, r2, r3, r4⟩ := ih (i + 1) (u.set i (z : Int)) t (by omega) (by rw [List.length_set]; exact hu) (Dig_set hdu _ (by omega)) ht (by
      rw [val_take_succ, hy, Int.toNat_natCast, Nat.pow_succ]
      exact ha)
    refine ⟨R, t', ?_, r1, r2, r3, r4⟩
    refine Ev.step (fun k => ?_) hR
    clear ha hs hv hR r4
    have i1 : (i : Int) < (b.length : Int) := by omega
    have i2 : (i : Int) < (u.length : Int) := by omega
    have hw2 : wrap64 ((i : Int) + 1) = ((i + 1 : Nat) : Int) := by rw [w64] <;> omega
    simp only [quo_give.l0]
    rw [if_pos i1, if_pos (Int.natCast_nonneg _), if_pos i1, if_pos i2, rd_nat, rd_nat, hx, hy, hS]
    simp only [Option.bind_some]
    rw [hw2, Int.toNat_natCast]

theorem give_sp {u b : List Int} (hu : Dig u) (hb : Dig b) (hl : u.length = b.length + 1) (hlb : b.length ≤ 100000000) :
    ∃ (R : List Int) (t : Nat), Ev (fun k => quo_give.f k u b) R ∧ t ≤ 1 ∧ R.length = b.length + 1 ∧ Dig R ∧ val R + 4294967296 ^ (b.length + 1) * t = val u + val b :=
  give_loop hb (V := val u) hlb b.length 0 u 0 rfl hl hu (by decide) (by rw [take_zero_val, Nat.mul_zero])

/-- The three parts of a row. -/
theorem val_parts {X Y Z : List Int} {j m : Nat} (hX : X.length = j) (hY : Y.length = m) : val (X ++ (Y ++ Z)) = val X + 4294967296 ^ j * (val Y + 4294967296 ^ m * val Z) := by
  rw [val_append, val_append, hX, hY]

theorem qbb_le {u y P : Nat} (hP : 0 < P) : u / y * (y / P) ≤ u / P := by
  rw [Nat.le_div_iff_mul_le hP, Nat.mul_assoc]
  exact Nat.le_trans (Nat.mul_le_mul_left _ (Nat.div_mul_le_self y P)) (Nat.div_mul_le_self u y)

theorem guess_le {u y P g : Nat} (hy : 0 < y) (hP : 0 < P) (h : g * (y / P) ≤ u / P) (hg : g ≤ y / P) : g ≤ u / y + 1 := by
  apply Nat.le_of_not_lt
  intro hlt
  have h1 : u < y * (u / y + 1) := Nat.lt_mul_div_succ u hy
  generalize u / y = q at hlt h1
  obtain ⟨g', rfl⟩ : ∃ g', g = g' + 1 := ⟨g - 1, by clear h1 h hg; omega⟩
  have h2 : y * (q + 1) ≤ y * g' := Nat.mul_le_mul_left _ (by clear h1 h hg; omega)
  have h3 : y < P * (y / P + 1) := Nat.lt_mul_div_succ y hP
  have h4 : y * g' ≤ P * (y / P + 1) * g' := Nat.mul_le_mul_right _ (Nat.le_of_lt h3)
  have h5 : (y / P + 1) * g' ≤ (g' + 1) * (y / P) := by
    rw [Nat.add_mul, Nat.add_mul, Nat.mul_comm g', Nat.one_mul, Nat.one_mul]
    exact Nat.add_le_add_left (Nat.le_trans (Nat.le_succ g') hg) _
  have h6 : P * ((y / P + 1) * g') ≤ P * (u / P) := Nat.mul_le_mul_left _ (Nat.le_trans h5 h)
  have h7 : P * (u / P) ≤ u := Nat.mul_div_le u P
  rw [Nat.mul_assoc] at h4
  exact Nat.lt_irrefl u (Nat.lt_of_lt_of_le h1 (Nat.le_trans h2 (Nat.le_trans h4 (Nat.le_trans h6 h7))))

/-- What the first digits of the divisor (b1, b2) and of the number (top, u2) tell of the quotient q. -/
structure Dg (q b1 b2 top u2 : Nat) : Prop where
  b1l : b1 < 4294967296
  b1g : 2147483648 ≤ b1
  b2l : b2 < 4294967296
  u2l : u2 < 4294967296
  topl : top < b1 * 4294967296 + 4294967296
  qle : q * (b1 * 4294967296 + b2) ≤ top * 4294967296 + u2
  gle : ∀ g, g < 4294967296 → g * (b1 * 4294967296 + b2) ≤ top * 4294967296 + u2 → g ≤ q + 1
  ql : q < 4294967296

theorem Dg_of {m y u : Nat} (hy : y < 4294967296 ^ (m + 2)) (hn : 2147483648 * 4294967296 ^ (m + 1) ≤ y) (hu : u < y * 4294967296) :
    Dg (u / y) (y / 4294967296 ^ (m + 1)) (y / 4294967296 ^ m % 4294967296) (u / 4294967296 ^ (m + 1)) (u / 4294967296 ^ m % 4294967296) := by
  have hp1 := pow_pos' (m + 1)
  have hp0 := pow_pos' m
  have e2 : 4294967296 ^ (m + 2) = 4294967296 ^ (m + 1) * 4294967296 := Nat.pow_succ 4294967296 (m + 1)
  rw [e2] at hy
  have hy0 : 0 < y := Nat.lt_of_lt_of_le (Nat.mul_pos (by decide) hp1) hn
  have hb1 : y / 4294967296 ^ (m + 1) < 4294967296 := Nat.div_lt_of_lt_mul hy
  have hb1g : 2147483648 ≤ y / 4294967296 ^ (m + 1) := (Nat.le_div_iff_mul_le hp1).2 hn
  have ebb := div_step y m
  have euu := div_step u m
  refine ⟨hb1, hb1g, Nat.mod_lt _ (by decide), Nat.mod_lt _ (by decide), ?_, ?_, ?_, Nat.div_lt_of_lt_mul hu⟩
  · apply Nat.div_lt_of_lt_mul
    have h1 : y < 4294967296 ^ (m + 1) * (y / 4294967296 ^ (m + 1) + 1) := Nat.lt_mul_div_succ y hp1
    have h2 := Nat.mul_lt_mul_of_pos_right h1 (show 0 < 4294967296 by decide)
    rw [Nat.mul_assoc, Nat.add_mul, Nat.one_mul] at h2
    exact Nat.lt_trans hu h2
  · rw [← ebb, ← euu]
    exact qbb_le hp0
  · intro g hg h
    rw [← ebb, ← euu] at h
    refine guess_le hy0 hp0 h ?_
    rw [ebb]
    generalize y / 4294967296 ^ (m + 1) = b1 at hb1g
    generalize y / 4294967296 ^ m % 4294967296 = b2
    clear hy hn hu e2 ebb euu h hp0 hp1 hb1
    omega

theorem guess_start {q b1 b2 top u2 : Nat} (D : Dg q b1 b2 top u2) : q ≤ top / b1 ∧ top / b1 ≤ 4294967297 ∧ top / b1 * b1 + top % b1 = top ∧ top % b1 < 4294967296 := by
  have hb : 0 < b1 := by have := D.b1g; omega
  have hm : top % b1 < 4294967296 := by
    have h1 := Nat.mod_lt top hb
    have h2 := D.b1l
    generalize top % b1 = x at h1
    omega
  refine ⟨?_, ?_, ?_, hm⟩
  · rw [Nat.le_div_iff_mul_le hb]
    have h1 := D.qle
    have h2 := D.u2l
    have h3 : q * b1 * 4294967296 ≤ q * (b1 * 4294967296 + b2) := by
      rw [Nat.mul_assoc]
      generalize b1 * 4294967296 = z
      exact Nat.mul_le_mul_left q (Nat.le_add_right z b2)
    generalize q * (b1 * 4294967296 + b2) = x at h1 h3
    generalize q * b1 = y at h3 ⊢
    omega
  · have h := D.topl
    have h2 := D.b1g
    have h3 : top < b1 * 4294967298 := by
      rw [show (4294967298 : Nat) = 4294967296 + 2 from rfl, Nat.mul_add]
      generalize b1 * 4294967296 = z at h ⊢
      omega
    have := Nat.div_lt_of_lt_mul h3
    generalize top / b1 = x at this
    omega
  · have := Nat.div_add_mod top b1
    rw [Nat.mul_comm] at this
    exact this

theorem guess_down {q b1 b2 top u2 g rest : Nat} (D : Dg q b1 b2 top u2) (hI : g * b1 + rest = top) (h : rest * 4294967296 + u2 < g * b2) : q < g := by
  have e : g * (b1 * 4294967296 + b2) = g * b1 * 4294967296 + g * b2 := by rw [Nat.mul_add, Nat.mul_assoc]
  have h1 := D.qle
  have h2 : q * (b1 * 4294967296 + b2) < g * (b1 * 4294967296 + b2) := by
    rw [e]
    generalize q * (b1 * 4294967296 + b2) = x at h1
    generalize g * b1 = z at hI
    generalize g * b2 = t at h
    omega
  exact Nat.lt_of_mul_lt_mul_right h2

theorem guess_up {q b1 b2 top u2 g rest : Nat} (D : Dg q b1 b2 top u2) (hI : g * b1 + rest = top) (hg : g < 4294967296) (h : g * b2 ≤ rest * 4294967296 + u2) : g ≤ q + 1 := by
  refine D.gle g hg ?_
  have e : g * (b1 * 4294967296 + b2) = g * b1 * 4294967296 + g * b2 := by rw [Nat.mul_add, Nat.mul_assoc]
  rw [e]
  generalize g * b1 = z at hI
  generalize g * b2 = t at h
  omega

theorem guess_big {q b1 b2 top u2 g rest : Nat} (D : Dg q b1 b2 top u2) (hI : g * b1 + rest = top) (hr : 4294967296 ≤ rest) : g < 4294967296 ∧ g ≤ q + 1 := by
  have ht := D.topl
  have hg : g < 4294967296 := by
    have : g * b1 < 4294967296 * b1 := by
      generalize g * b1 = z at hI
      omega
    exact Nat.lt_of_mul_lt_mul_right this
  refine ⟨hg, guess_up D hI hg ?_⟩
  have h1 : g * b2 ≤ 4294967296 * 4294967296 := Nat.mul_le_mul (Nat.le_of_lt hg) (Nat.le_of_lt D.b2l)
  generalize g * b2 = t at h1
  omega

theorem or64m {a b : Nat} (ha : a < 4294967296) (hb : b < 4294967296) : Go.bits .or .u64 (IntKind.u64.wrap ((a : Int) * 4294967296)) (IntKind.u64.wrap (b : Int)) = ((a * 4294967296 + b : Nat) : Int) := by
  rw [u64 (x := (b : Int)) (by omega) (by omega), u64 (by omega) (by omega), or64 (by omega) (by omega)]
  omega

/-- One less, and what follows. -/
theorem long_j2 {b Q U : List Int} {sh : Int} {n j m : Nat} {q b1 b2 top u2 : Nat} {r : List Int × List Int × Bool} (D : Dg q b1 b2 top u2) (hn : n = m + 2) (hbl : b.length = n) (hn1 : n ≤ 100000000) (e1 : b.getD (m + 1) 0 = (b1 : Int))
    (hnext : ∀ g : Nat, q ≤ g → g ≤ q + 1 → g < 4294967296 → Ev (fun k => quo_long.j3 k b Q sh n U j g) r) {g rest : Nat} (hr : rest < 4294967296) (hI : g * b1 + rest = top) (hq : q < g) (hg : g ≤ 4294967297)
    (hloop : ∀ g' rest' : Nat, rest' < 4294967296 → rest' = rest + b1 → g' * b1 + rest' = top → q ≤ g' → g' ≤ 4294967297 → Ev (fun k => quo_long.l1 k b Q sh n U j g' rest') r) :
    Ev (fun k => quo_long.j2 k b Q sh n U j g rest true) r := by
  obtain ⟨g', rfl⟩ : ∃ g', g = g' + 1 := ⟨g - 1, by omega⟩
  have hI' : g' * b1 + (rest + b1) = top := by
    rw [Nat.add_mul, Nat.one_mul] at hI
    omega
  have hb1 := D.b1l
  have w1 : wrap64 ((n : Int) - 1) = ((m + 1 : Nat) : Int) := by rw [w64] <;> omega
  have i1 : ((m + 1 : Nat) : Int) < (b.length : Int) := by omega
  have w2 : IntKind.u64.wrap ((rest : Int) + IntKind.u64.wrap (b1 : Int)) = ((rest + b1 : Nat) : Int) := by
    rw [u64 (x := (b1 : Int)) (by omega) (by omega), u64 (by omega) (by omega)]
    omega
  have w3 : IntKind.u64.wrap (((g' + 1 : Nat) : Int) - 1) = (g' : Int) := by
    rw [u64 (by omega) (by omega)]
    omega
  by_cases hb : 4294967296 ≤ rest + b1
  · obtain ⟨g1, g2⟩ := guess_big D hI' hb
    refine Ev.step (fun k => ?_) (hnext g' (by omega) g2 g1)
    simp only [quo_long.j2]
    rw [if_pos trivial, w1, if_pos (Int.natCast_nonneg _), if_pos i1, rd_nat, e1, w2, w3, if_pos (by omega)]
  · refine Ev.step (fun k => ?_) (hloop g' (rest + b1) (by omega) rfl hI' (by omega) (by omega))
    simp only [quo_long.j2]
    rw [if_pos trivial, w1, if_pos (Int.natCast_nonneg _), if_pos i1, rd_nat, e1, w2, w3, if_neg (by omega)]

theorem long_ix {n m j : Nat} (hn : n = m + 2) (hn1 : n ≤ 100000000) (hj : j ≤ 100000000) : wrap64 ((n : Int) - 2) = (m : Int) ∧ wrap64 ((j : Int) + (n : Int)) = ((j + n : Nat) : Int) ∧ wrap64 (((j + n : Nat) : Int) - 2) = ((j + m : Nat) : Int) := by
  refine ⟨?_, ?_, ?_⟩
  · rw [w64 (by omega) (by omega)]; omega
  · rw [w64 (by omega) (by omega)]; omega
  · rw [w64 (by omega) (by omega)]; omega

theorem long_l1 {b Q U : List Int} {sh : Int} {n j m : Nat} {q b1 b2 top u2 : Nat} {r : List Int × List Int × Bool} (D : Dg q b1 b2 top u2) (hn : n = m + 2) (hbl : b.length = n) (hn1 : n ≤ 100000000) (hj : j ≤ 100000000) (hU : j + n < U.length) (e1 : b.getD (m + 1) 0 = (b1 : Int)) (e2 : b.getD m 0 = (b2 : Int)) (e3 : U.getD (j + m) 0 = (u2 : Int))
    (hnext : ∀ g : Nat, q ≤ g → g ≤ q + 1 → g < 4294967296 → Ev (fun k => quo_long.j3 k b Q sh n U j g) r) :
    ∀ (d g rest : Nat), 4294967296 ≤ rest + d * 2147483648 → rest < 4294967296 → g * b1 + rest = top → q ≤ g → g ≤ 4294967297 → Ev (fun k => quo_long.l1 k b Q sh n U j g rest) r := by
  obtain ⟨w1, w0, w2⟩ := long_ix hn hn1 hj
  have i1 : (m : Int) < (b.length : Int) := by rw [hbl, hn]; exact Int.ofNat_lt.2 (Nat.lt_add_of_pos_right (by decide))
  have i2 : ((j + m : Nat) : Int) < (U.length : Int) := Int.ofNat_lt.2 (Nat.lt_of_le_of_lt (Nat.add_le_add_left (by rw [hn]; exact Nat.le_add_right _ _) j) hU)
  intro d
  induction d with
  | zero => intro g rest h1 h2; omega
  | succ d ih =>
    intro g rest hd hr hI hq hg
    have hloop : ∀ g' rest' : Nat, rest' < 4294967296 → rest' = rest + b1 → g' * b1 + rest' = top → q ≤ g' → g' ≤ 4294967297 → Ev (fun k => quo_long.l1 k b Q sh n U j g' rest') r := by
      intro g' rest' h1 h2 h3 h4 h5
      have := D.b1g
      exact ih g' rest' (by clear hI h3; omega) h1 h3 h4 h5
    have hql := D.ql
    by_cases hB : 4294967296 ≤ g
    · refine Ev.step (fun k => ?_) (long_j2 D hn hbl hn1 e1 hnext hr hI (Nat.lt_of_lt_of_le hql hB) hg hloop)
      simp only [quo_long.l1]
      rw [if_pos (show (g : Int) ≥ 4294967296 from Int.ofNat_le.2 hB)]
    · have hb2 := D.b2l
      have hu2 := D.u2l
      have hp : g * b2 ≤ 4294967296 * 4294967296 - 4294967296 := by
        have h3 : g ≤ 4294967295 := by clear hI; omega
        have h4 : b2 ≤ 4294967295 := by clear hI; omega
        have h5 : g * b2 ≤ 4294967295 * 4294967295 := Nat.mul_le_mul h3 h4
        exact Nat.le_trans h5 (by decide)
      have w3 : IntKind.u64.wrap ((g : Int) * IntKind.u64.wrap (b2 : Int)) = ((g * b2 : Nat) : Int) := by
        rw [u64 (x := (b2 : Int)) (by omega) (by omega), ← Int.natCast_mul]
        generalize g * b2 = p at hp
        rw [u64 (by omega) (by omega)]
      have hflag : (decide (((g * b2 : Nat) : Int) > ((rest * 4294967296 + u2 : Nat) : Int))) = decide (rest * 4294967296 + u2 < g * b2) := by
        generalize g * b2 = p
        generalize rest * 4294967296 + u2 = s
        by_cases h : s < p
        · rw [decide_eq_true h, decide_eq_true (Int.ofNat_lt.2 h)]
        · rw [decide_eq_false h, decide_eq_false (by omega)]
      have hstep : ∀ k, quo_long.l1 (k + 1) b Q sh n U j g rest = quo_long.j2 k b Q sh n U j g rest (decide (rest * 4294967296 + u2 < g * b2)) := by
        intro k
        simp only [quo_long.l1]
        rw [if_neg (show ¬ (g : Int) ≥ 4294967296 from fun h => hB (Int.ofNat_le.1 h)), w1, if_pos (Int.natCast_nonneg _), if_pos i1, w0, w2, if_pos (Int.natCast_nonneg _), if_pos i2, rd_nat, rd_nat, e2, e3, w3, or64m hr hu2, hflag]
      by_cases h : rest * 4294967296 + u2 < g * b2
      · refine Ev.step (fun k => ?_) (long_j2 D hn hbl hn1 e1 hnext hr hI (guess_down D hI h) hg hloop)
        rw [hstep k, decide_eq_true h]
      · refine Ev.step (f := fun k => quo_long.j2 k b Q sh n U j g rest false) (fun k => ?_) (Ev.step (fun k => ?_) (hnext g hq (guess_up D hI (Nat.lt_of_not_le hB) (Nat.le_of_not_lt h)) (Nat.lt_of_not_le hB)))
        · rw [hstep k, decide_eq_false h]
        · simp only [quo_long.j2]
          rw [if_neg (by simp)]

theorem vtk (l : List Int) (h : Dig l) (n : Nat) : val (l.take n) = val l % 4294967296 ^ n := by
  by_cases hn : n ≤ l.length
  · have h1 := val_split l n
    rw [Nat.min_eq_left hn] at h1
    have h2 := val_lt (Dig_take h n)
    rw [List.length_take, Nat.min_eq_left hn] at h2
    rw [h1, Nat.add_mul_mod_self_left, Nat.mod_eq_of_lt h2]
  · rw [take_ge_val l (by omega), Nat.mod_eq_of_lt (Nat.lt_of_lt_of_le (val_lt h) (pow_le (by omega)))]

theorem seg_val {U : List Int} (hU : Dig U) {j h : Nat} (hW : val U < 4294967296 ^ h) : val ((U.take h).drop j) = val U / 4294967296 ^ j := by
  rw [val_drop _ (Dig_take hU h), vtk U hU, Nat.mod_eq_of_lt hW]

theorem take_at_sp {U b : List Int} (hU : Dig U) (hb : Dig b) {g j n : Nat} (hn : b.length = n) (hg : g < 4294967296) (hl : j + n + 1 ≤ U.length) (hlb : n ≤ 100000000) (hW : val U < 4294967296 ^ (j + n + 1)) :
    ∃ (R : List Int) (t : Nat), Ev (fun k => quo_take_at.f k U (j : Int) ((j + n + 1 : Nat) : Int) b (g : Int)) (decide (t = 1), U.take j ++ (R ++ U.drop (j + n + 1))) ∧ t ≤ 1 ∧ R.length = n + 1 ∧ Dig R ∧ val R + g * val b = val U / 4294967296 ^ j + 4294967296 ^ (n + 1) * t := by
  subst hn
  have hlen : ((U.take (j + b.length + 1)).drop j).length = b.length + 1 := by rw [List.length_drop, List.length_take]; omega
  obtain ⟨R, t, hE, h1, h2, h3, h4⟩ := take_sp (Dig_drop (Dig_take hU (j + b.length + 1)) j) hb hg hlen hlb
  rw [seg_val hU hW] at h4
  refine ⟨R, t, ?_, h1, h2, h3, h4⟩
  have hc : 0 ≤ (j : Int) ∧ (j : Int) < ((j + b.length + 1 : Nat) : Int) ∧ ((j + b.length + 1 : Nat) : Int) ≤ (U.length : Int) := by
    clear hW h4
    omega
  refine Ev.congr (fun k => ?_) (Ev.bind (f := fun _ (bt : Bool × List Int) => some (bt.1, U.take j ++ (bt.2 ++ U.drop (j + b.length + 1)))) hE (Ev.now _))
  unfold quo_take_at.f
  rw [if_pos hc, Int.toNat_natCast, Int.toNat_natCast]

theorem give_at_sp {X R Z b : List Int} (hR : Dig R) (hb : Dig b) {j n : Nat} (hX : X.length = j) (hn : b.length = n) (hl : R.length = n + 1) (hlb : n ≤ 100000000) :
    ∃ (R' : List Int) (t : Nat), Ev (fun k => quo_give_at.f k (X ++ (R ++ Z)) (j : Int) ((j + n + 1 : Nat) : Int) b) (X ++ (R' ++ Z)) ∧ t ≤ 1 ∧ R'.length = n + 1 ∧ Dig R' ∧ val R' + 4294967296 ^ (n + 1) * t = val R + val b := by
  subst hn hX
  obtain ⟨R', t, hE, h1, h2, h3, h4⟩ := give_sp hR hb hl hlb
  refine ⟨R', t, ?_, h1, h2, h3, h4⟩
  have e1 : ((X ++ (R ++ Z)).take (X.length + b.length + 1)).drop X.length = R := by
    rw [Nat.add_assoc, ← hl]
    simp [List.take_append, List.drop_append]
  have e2 : (X ++ (R ++ Z)).take X.length = X := by simp
  have e3 : (X ++ (R ++ Z)).drop (X.length + b.length + 1) = Z := by
    rw [Nat.add_assoc, ← hl]
    simp [List.drop_append]
  have hll : (X ++ (R ++ Z)).length = X.length + (R.length + Z.length) := by simp
  have hc : 0 ≤ (X.length : Int) ∧ (X.length : Int) < ((X.length + b.length + 1 : Nat) : Int) ∧ ((X.length + b.length + 1 : Nat) : Int) ≤ ((X ++ (R ++ Z)).length : Int) := by
    rw [hll]
    clear h4 e1 e2 e3
    omega
  refine Ev.congr (fun k => ?_) (Ev.bind (f := fun _ (bt : List Int) => some (X ++ (bt ++ Z))) hE (Ev.now _))
  unfold quo_give_at.f
  rw [if_pos hc, Int.toNat_natCast, Int.toNat_natCast, e1, e2, e3]

theorem take_fin0 {r q y u P t : Nat} (h : r + q * y = u + P * t) (hr : r < P) (hq : q * y ≤ u) (ht : t ≤ 1) : t = 0 ∧ r = u - q * y := by
  generalize q * y = x at *
  rcases (show t = 0 ∨ t = 1 by omega) with rfl | rfl <;> omega

theorem take_fin1 {r r2 q y u P t t2 : Nat} (h : r + (q + 1) * y = u + P * t) (hq : q * y ≤ u) (hq1 : u < (q + 1) * y) (ht : t ≤ 1) (hy : y ≤ P) (h2 : r2 + P * t2 = r + y) (hr2 : r2 < P) (ht2 : t2 ≤ 1) : t = 1 ∧ r2 = u - q * y := by
  rw [Nat.add_mul, Nat.one_mul] at h hq1
  generalize q * y = x at *
  rcases (show t = 0 ∨ t = 1 by omega) with rfl | rfl <;> rcases (show t2 = 0 ∨ t2 = 1 by omega) with rfl | rfl <;> omega

theorem long_ix2 {n j : Nat} (hn1 : n ≤ 100000000) (hj : j ≤ 100000000) : wrap64 (wrap64 ((j : Int) + (n : Int)) + 1) = ((j + n + 1 : Nat) : Int) ∧ wrap64 ((j : Int) - 1) = (j : Int) - 1 := by
  refine ⟨?_, w64 (by omega) (by omega)⟩
  rw [w64 (x := (j : Int) + (n : Int)) (by omega) (by omega), w64 (by omega) (by omega)]
  omega

theorem tk_len {U : List Int} {j n : Nat} (hl : j + n + 1 ≤ U.length) : (U.take j).length = j := by rw [List.length_take]; omega

theorem tk_len2 {U R : List Int} {j n : Nat} (hl : j + n + 1 ≤ U.length) (hR : R.length = n + 1) : (U.take j ++ (R ++ U.drop (j + n + 1))).length = U.length := by
  rw [List.length_append, List.length_append, tk_len hl, hR, List.length_drop]
  omega

theorem one_of {q g : Nat} (h1 : q ≤ g) (h2 : g ≤ q + 1) : g = q ∨ g = q + 1 := by omega

theorem div_rest (s y : Nat) : s - s / y * y = s % y := by
  have := Nat.div_add_mod s y
  rw [Nat.mul_comm] at this
  generalize s / y * y = x at this ⊢
  generalize s % y = z at this ⊢
  omega

theorem less_one {q g : Nat} (hg : g < 4294967296) (h : g = q + 1) : IntKind.u64.wrap ((g : Int) - 1) % 4294967296 = (q : Int) := by
  rw [u64 (by omega) (by omega)]
  omega

theorem same_mod {g : Nat} (hg : g < 4294967296) : (g : Int) % 4294967296 = (g : Int) := by omega

theorem long_j3 {b Q U : List Int} {sh : Int} {n j g : Nat} {r : List Int × List Int × Bool} (hU : Dig U) (hb : Dig b) (hbl : b.length = n) (hn1 : n ≤ 100000000) (hj1 : j ≤ 100000000) (hl : j + n + 1 ≤ U.length) (hjQ : j < Q.length)
    (hy : val b < 4294967296 ^ n) (hy0 : 0 < val b) (hW : val U < 4294967296 ^ (j + n + 1)) (h1 : val U / 4294967296 ^ j / val b ≤ g) (h2 : g ≤ val U / 4294967296 ^ j / val b + 1) (hg : g < 4294967296)
    (hnext : ∀ U' : List Int, U'.length = U.length → Dig U' → val U' = val U % (4294967296 ^ j * val b) → Ev (fun k => quo_long.l0 k b (Q.set j ((val U / 4294967296 ^ j / val b : Nat) : Int)) sh n U' ((j : Int) - 1)) r) :
    Ev (fun k => quo_long.j3 k b Q sh n U j g) r := by
  obtain ⟨R, t, hT, ht, hRl, hRd, hR⟩ := take_at_sp hU hb hbl hg hl hn1 hW
  obtain ⟨w1, w2⟩ := long_ix2 hn1 hj1
  have hXl := tk_len hl
  have hRlt := val_lt hRd
  rw [hRl] at hRlt
  have hq0 : val U / 4294967296 ^ j / val b * val b ≤ val U / 4294967296 ^ j := Nat.div_mul_le_self _ _
  have hq1 : val U / 4294967296 ^ j < (val U / 4294967296 ^ j / val b + 1) * val b := by
    rw [Nat.mul_comm]; exact Nat.lt_mul_div_succ _ hy0
  have hmod := div_rest (val U / 4294967296 ^ j) (val b)
  have hyP : val b ≤ 4294967296 ^ (n + 1) := Nat.le_trans (Nat.le_of_lt hy) (pow_le (Nat.le_succ n))
  have hZ : val (U.drop (j + n + 1)) = 0 := by rw [val_drop U hU, Nat.div_eq_of_lt hW]
  have hval : ∀ R' : List Int, R'.length = n + 1 → val R' = val U / 4294967296 ^ j % val b → val (U.take j ++ (R' ++ U.drop (j + n + 1))) = val U % (4294967296 ^ j * val b) := by
    intro R' hl' hv'
    rw [val_parts hXl hl', hZ, Nat.mul_zero, Nat.add_zero, hv', vtk U hU, Nat.mod_mul]
  have hlen : ∀ R' : List Int, R'.length = n + 1 → (U.take j ++ (R' ++ U.drop (j + n + 1))).length = U.length := fun R' hl' => tk_len2 hl hl'
  have hdig : ∀ R' : List Int, Dig R' → Dig (U.take j ++ (R' ++ U.drop (j + n + 1))) := fun R' h => Dig_append.2 ⟨Dig_take hU _, Dig_append.2 ⟨h, Dig_drop hU _⟩⟩
  have i1 : (0 : Int) ≤ (j : Int) := Int.natCast_nonneg _
  have i2 : (j : Int) < (Q.length : Int) := Int.ofNat_lt.2 hjQ
  rcases one_of h1 h2 with hgq | hgq
  · rw [hgq] at hR
    obtain ⟨rfl, hr⟩ := take_fin0 hR hRlt hq0 ht
    rw [hmod] at hr
    have hK := hnext _ (hlen R hRl) (hdig R hRd) (hval R hRl hr)
    rw [← hgq] at hK
    clear hR hRlt hq0 hq1 hmod hyP hZ hval hW hy hr
    refine Ev.step (f := ?F) (fun k => ?_) ?_
    rotate_left
    · simp only [quo_long.j3]
      rw [w1, w2, Int.toNat_natCast]
    refine Ev.bind (f := fun k t => _) hT ?_
    refine Ev.ifn (by simp) (Ev.ifp i1 (Ev.ifp i2 ?_))
    rw [same_mod hg]
    exact hK
  · rw [hgq] at hR
    obtain ⟨R2, t2, hT2, ht2, hR2l, hR2d, hR2⟩ := give_at_sp (X := U.take j) (Z := U.drop (j + n + 1)) hRd hb hXl hbl hRl hn1
    have hR2lt := val_lt hR2d
    rw [hR2l] at hR2lt
    obtain ⟨rfl, hr⟩ := take_fin1 hR hq0 hq1 ht hyP hR2 hR2lt ht2
    rw [hmod] at hr
    have hK := hnext _ (hlen R2 hR2l) (hdig R2 hR2d) (hval R2 hR2l hr)
    have hg1 := less_one hg hgq
    rw [← hg1] at hK
    clear hR hRlt hq0 hq1 hmod hyP hZ hval hW hy hr hR2 hR2lt
    refine Ev.step (f := ?G) (fun k => ?_) ?_
    rotate_left
    · simp only [quo_long.j3]
      rw [w1, w2, Int.toNat_natCast]
    refine Ev.bind (f := fun k t => _) hT (Ev.ifp (by simp) (Ev.bind (f := fun k t => _) hT2 ?_))
    exact Ev.ifp i1 (Ev.ifp i2 hK)

theorem LZ_eq {d : Nat} (h : d < 4294967296) : bits_LeadingZeros32.f (d : Int) = some ((32 - bl d : Nat) : Int) := by
  unfold bits_LeadingZeros32.f bits_Len32.f
  rw [if_pos (by omega), Int.toNat_natCast, bitLen_bl (by omega)]
  have : bl d ≤ 32 := bl_le.2 h
  simp only [Option.bind_some]
  rw [w64 (by omega) (by omega)]
  congr 1
  omega

/-- Moved up so that the first bit of the first digit is 1. -/
theorem norm_one {d : Nat} (h0 : d ≠ 0) (h : d < 4294967296) : 2147483648 ≤ d * 2 ^ (32 - bl d) ∧ (d + 1) * 2 ^ (32 - bl d) ≤ 4294967296 := by
  have hb : bl d ≤ 32 := bl_le.2 h
  have hb0 : bl d ≠ 0 := fun h1 => h0 (by have := bl_le.1 (Nat.le_of_eq h1); omega)
  have h1 : d < 2 ^ bl d := bl_le.1 (Nat.le_refl _)
  have h2 : 2 ^ (bl d - 1) ≤ d := by
    apply Nat.le_of_not_lt
    intro h3
    have := bl_le.2 h3
    omega
  have e1 : 2 ^ bl d * 2 ^ (32 - bl d) = 4294967296 := by rw [← Nat.pow_add, show bl d + (32 - bl d) = 32 by omega]
  have e2 : 2 ^ (bl d - 1) * 2 ^ (32 - bl d) = 2147483648 := by rw [← Nat.pow_add, show bl d - 1 + (32 - bl d) = 31 by omega]
  constructor
  · rw [← e2]; exact Nat.mul_le_mul_right _ h2
  · rw [← e1]; exact Nat.mul_le_mul_right _ h1

theorem norm_num {y P k : Nat} (hP : 0 < P) (h1 : 2147483648 ≤ y / P * 2 ^ k) (h2 : (y / P + 1) * 2 ^ k ≤ 4294967296) : 2147483648 * P ≤ y * 2 ^ k ∧ y * 2 ^ k < P * 4294967296 := by
  have a1 : P * (y / P) ≤ y := Nat.mul_div_le y P
  have a2 : y < P * (y / P + 1) := Nat.lt_mul_div_succ y hP
  constructor
  · have := Nat.mul_le_mul_left P h1
    rw [← Nat.mul_assoc, Nat.mul_comm P 2147483648] at this
    exact Nat.le_trans this (Nat.mul_le_mul_right _ a1)
  · have := Nat.mul_le_mul_left P h2
    rw [← Nat.mul_assoc] at this
    exact Nat.lt_of_lt_of_le (Nat.mul_lt_mul_of_pos_right a2 (Nat.two_pow_pos k)) this

theorem long_l0 {b : List Int} (hb : Dig b) {n m0 mQ sh A : Nat} (hbl : b.length = n) (hn : n = m0 + 2) (hy1 : 2147483648 * 4294967296 ^ (m0 + 1) ≤ val b) (hmQ : mQ + n ≤ 10000000) (hsh : sh ≤ 100)
    (hA : A / val b < 4294967296 ^ mQ) :
    ∀ (m : Nat) (U Q : List Int), m ≤ mQ → U.length = mQ + n → Q.length = mQ → Dig U → val U = A % (4294967296 ^ m * val b) → (∀ i, m ≤ i → i < mQ → Q.getD i 0 = ((A / val b / 4294967296 ^ i % 4294967296 : Nat) : Int)) →
      Ev (fun k => quo_long.l0 k b Q (sh : Int) (n : Int) U ((m : Int) - 1)) (dg (A / val b), dg (A % val b / 2 ^ sh), true) := by
  have hyl : val b < 4294967296 ^ n := by have := val_lt hb; rw [hbl] at this; exact this
  have hy0 : 0 < val b := Nat.lt_of_lt_of_le (Nat.mul_pos (by decide) (pow_pos' (m0 + 1))) hy1
  have hn1 : n ≤ 100000000 := by clear hyl hy1 hA hy0; omega
  have hsh' : (sh : Int) ≤ 9223372036854775807 := by omega
  have hsh0 : ¬ (sh : Int) < 0 := by omega
  intro m
  induction m with
  | zero =>
    intro U Q _ hUl hQl hU hv hdig
    rw [Nat.pow_zero, Nat.one_mul] at hv
    have hdQ : Dig Q := Dig_of (fun j hj => by rw [hdig j (Nat.zero_le _) (by rw [← hQl]; exact hj)]; exact nat_mod_bd _)
    have hvQ : val Q = A / val b := by
      rw [val_of_digits (A / val b) Q (fun j hj => hdig j (Nat.zero_le _) (by rw [← hQl]; exact hj)), hQl, Nat.mod_eq_of_lt hA]
    have hvU : val (U.take n) = A % val b := by
      rw [vtk U hU, hv, Nat.mod_eq_of_lt (Nat.lt_trans (Nat.mod_lt _ hy0) hyl)]
    have hlt : (U.take n).length ≤ 100000000 := by rw [List.length_take]; clear hyl hy1 hA hy0 hv hvU hvQ hdig; omega
    have hQl2 : Q.length ≤ 1000000000 := by rw [hQl]; clear hyl hy1 hA hy0 hv hvU hvQ hdig; omega
    have hUn : (n : Int) ≤ (U.length : Int) := by rw [hUl]; exact Int.ofNat_le.2 (Nat.le_add_left _ _)
    have hT : Ev (fun k => nat_Trim.f k Q) (dg (A / val b)) := Ev.eq (Trim_sp hQl2 hdQ) (by rw [hvQ])
    have hS : Ev (fun k => nat_Shr.f k (U.take n) (sh : Int)) (dg (A % val b / 2 ^ sh)) := Ev.eq (Shr_sp (Dig_take hU n) hlt hsh') (by rw [if_neg hsh0, hvU, Int.toNat_natCast])
    clear hyl hy1 hA hy0 hv hvU hvQ hdig
    refine Ev.step (f := ?F) (fun k => ?_) ?_
    rotate_left
    · simp only [quo_long.l0]
      rw [if_neg (by decide), Int.toNat_natCast]
    exact Ev.bind (f := fun k t => _) hT (Ev.ifp (Int.natCast_nonneg _) (Ev.ifp hUn (Ev.bind (f := fun k t => some (dg (A / val b), t, true)) hS (Ev.now _))))
  | succ m ih =>
    intro U Q hm hUl hQl hU hv hdig
    have hp := pow_pos' m
    have hpy : 0 < 4294967296 ^ (m + 1) * val b := Nat.mul_pos (pow_pos' (m + 1)) hy0
    have epow : 4294967296 ^ (m + 1) * val b = 4294967296 ^ m * val b * 4294967296 := by rw [Nat.pow_succ]; ac_rfl
    have hUlt : val U < 4294967296 ^ m * (val b * 4294967296) := by
      rw [hv, ← Nat.mul_assoc, ← epow]; exact Nat.mod_lt _ hpy
    have hu : val U / 4294967296 ^ m < val b * 4294967296 := Nat.div_lt_of_lt_mul hUlt
    have hyl2 : val b < 4294967296 ^ (m0 + 2) := by rw [← hn]; exact hyl
    have D := Dg_of hyl2 hy1 hu
    have hW : val U < 4294967296 ^ (m + n + 1) := by
      have e1 : 4294967296 ^ (m + n + 1) = 4294967296 ^ m * (4294967296 ^ n * 4294967296) := by rw [Nat.pow_succ, Nat.pow_add, Nat.mul_assoc]
      rw [e1]
      exact Nat.lt_of_lt_of_le hUlt (Nat.mul_le_mul_left _ (Nat.mul_le_mul_right _ (Nat.le_of_lt hyl)))
    have eq1 : val U / 4294967296 ^ m / val b = A / val b / 4294967296 ^ m % 4294967296 := by
      rw [hv, epow, Nat.div_div_eq_div_mul, Nat.mod_mul_right_div_self, Nat.mul_comm, Nat.div_div_eq_div_mul]
    have eq2 : val U % (4294967296 ^ m * val b) = A % (4294967296 ^ m * val b) := by
      rw [hv, epow, Nat.mod_mul_right_mod]
    have d1 : b.getD (m0 + 1) 0 = ((val b / 4294967296 ^ (m0 + 1) : Nat) : Int) := by rw [getD_val hb, Nat.mod_eq_of_lt D.b1l]
    have d2 : b.getD m0 0 = ((val b / 4294967296 ^ m0 % 4294967296 : Nat) : Int) := getD_val hb m0
    have dv : ∀ i, U.getD (m + i) 0 = ((val U / 4294967296 ^ m / 4294967296 ^ i % 4294967296 : Nat) : Int) := by
      intro i; rw [getD_val hU, Nat.div_div_eq_div_mul, ← Nat.pow_add]
    have d3 := dv m0
    have d4 := dv (m0 + 1)
    have d5 := dv (m0 + 2)
    have hu2 : val U / 4294967296 ^ m / 4294967296 ^ (m0 + 2) < 4294967296 := by
      apply Nat.div_lt_of_lt_mul
      exact Nat.lt_of_lt_of_le hu (Nat.mul_le_mul_right _ (Nat.le_of_lt hyl2))
    rw [Nat.mod_eq_of_lt hu2] at d5
    have etop := div_step (val U / 4294967296 ^ m) (m0 + 1)
    obtain ⟨g1, g2, g3, g4⟩ := guess_start D
    have hdd4 : val U / 4294967296 ^ m / 4294967296 ^ (m0 + 1) % 4294967296 < 4294967296 := Nat.mod_lt _ (by decide)
    have hnext : ∀ g : Nat, val U / 4294967296 ^ m / val b ≤ g → g ≤ val U / 4294967296 ^ m / val b + 1 → g < 4294967296 → Ev (fun k => quo_long.j3 k b Q (sh : Int) n U m g) (dg (A / val b), dg (A % val b / 2 ^ sh), true) := by
      intro g h1 h2 h3
      have hl : m + n + 1 ≤ U.length := by rw [hUl]; clear hp hpy epow hUlt hu hW eq1 eq2 d1 d2 dv d3 d4 d5 hu2 etop g1 g2 g3 g4 hdd4 hyl hyl2 hy1 hy0 hA hv hdig h1 h2; omega
      refine long_j3 hU hb hbl hn1 (by clear hp hpy epow hUlt hu hW eq1 eq2 d1 d2 dv d3 d4 d5 hu2 etop g1 g2 g3 g4 hdd4 hyl hyl2 hy1 hy0 hA hv hdig h1 h2; omega) hl (by rw [hQl]; exact hm) hyl hy0 hW h1 h2 h3 ?_
      intro U' hl' hd' hv'
      rw [eq1]
      refine ih U' (Q.set m _) (Nat.le_of_succ_le hm) (by rw [hl', hUl]) (by rw [List.length_set, hQl]) hd' (by rw [hv', eq2]) ?_
      intro i hi hi2
      rw [getD_set]
      by_cases h : m = i
      · subst h; rw [if_pos ⟨rfl, by rw [hQl]; exact hi2⟩]
      · rw [if_neg (fun h2 => h h2.1)]; exact hdig i (Nat.lt_of_le_of_ne hi h) hi2
    have hmn : m + n < U.length := by rw [hUl]; exact Nat.add_lt_add_right hm n
    have hm1 : m ≤ 100000000 := by clear hp hpy epow hUlt hu hW eq1 eq2 d1 d2 dv d3 d4 d5 hu2 etop g1 g2 g3 g4 hdd4 hyl hyl2 hy1 hy0 hA hv hdig; omega
    have L1 := long_l1 D hn hbl hn1 hm1 hmn d1 d2 d3 hnext 2 _ _ (Nat.le_add_left _ _) g4 g3 g1 g2
    refine Ev.step (fun k => ?_) L1
    have hb1l := D.b1l
    have hb1g := D.b1g
    obtain ⟨w0, w1, w2, w3⟩ : ((m + 1 : Nat) : Int) - 1 = (m : Int) ∧ wrap64 ((m : Int) + (n : Int)) = ((m + n : Nat) : Int) ∧ wrap64 (((m + n : Nat) : Int) - 1) = ((m + (m0 + 1) : Nat) : Int) ∧ wrap64 ((n : Int) - 1) = ((m0 + 1 : Nat) : Int) := by
      clear L1 hnext hp hpy epow hUlt hu hW eq1 eq2 d1 d2 dv d3 d4 d5 hu2 etop g1 g2 g3 g4 hdd4 hyl hyl2 hy1 hy0 hA hv hdig hb1l hb1g D ih
      refine ⟨by omega, ?_, ?_, ?_⟩
      · rw [w64 (by omega) (by omega)]; omega
      · rw [w64 (by omega) (by omega)]; omega
      · rw [w64 (by omega) (by omega)]; omega
    have i1 : ((m + n : Nat) : Int) < (U.length : Int) := Int.ofNat_lt.2 hmn
    have i2 : ((m + (m0 + 1) : Nat) : Int) < (U.length : Int) := Int.ofNat_lt.2 (Nat.lt_of_le_of_lt (by rw [hn]; exact Nat.add_le_add_left (Nat.le_succ _) _) hmn)
    have i3 : ((m0 + 1 : Nat) : Int) < (b.length : Int) := Int.ofNat_lt.2 (by rw [hbl, hn]; exact Nat.lt_succ_self _)
    have hor : Go.bits .or .u64 (IntKind.u64.wrap (IntKind.u64.wrap (rd U ((m + n : Nat) : Int)) * 4294967296)) (IntKind.u64.wrap (rd U ((m + (m0 + 1) : Nat) : Int))) = ((val U / 4294967296 ^ m / 4294967296 ^ (m0 + 1) : Nat) : Int) := by
      rw [rd_nat, rd_nat, hn, d5, d4, or64n hu2 hdd4, ← etop]
    have hb1 : IntKind.u64.wrap (rd b ((m0 + 1 : Nat) : Int)) = ((val b / 4294967296 ^ (m0 + 1) : Nat) : Int) := by
      rw [rd_nat, d1]
      generalize val b / 4294967296 ^ (m0 + 1) = z at hb1l
      rw [u64 (by omega) (by omega)]
    have hb10 : ¬ ((val b / 4294967296 ^ (m0 + 1) : Nat) : Int) = 0 := by
      generalize val b / 4294967296 ^ (m0 + 1) = z at hb1g
      omega
    simp only [quo_long.l0]
    rw [w0, if_pos (show (m : Int) ≥ 0 from Int.natCast_nonneg _), w1, if_pos (Int.natCast_nonneg _), if_pos i1, w2, if_pos (Int.natCast_nonneg _), if_pos i2, w3, if_pos (Int.natCast_nonneg _), if_pos i3, hor, hb1, if_neg hb10, tdivn, tmodn]
    generalize val U / 4294967296 ^ m / 4294967296 ^ (m0 + 1) / (val b / 4294967296 ^ (m0 + 1)) = z at g2
    rw [u64 (by omega) (by omega)]

theorem dg_len_eq {v n : Nat} (h0 : 4294967296 ^ n ≤ v) (h1 : v < 4294967296 ^ (n + 1)) : (dg v).length = n + 1 := by
  have a := dg_length_le h1
  apply Nat.le_antisymm a
  apply Nat.succ_le_of_lt
  apply Nat.lt_of_not_le
  intro h
  have := lt_of_dg_length h
  exact Nat.lt_irrefl _ (Nat.lt_of_lt_of_le this h0)

theorem dg_len_mono {x y : Nat} (h : y ≤ x) : (dg y).length ≤ (dg x).length := by
  apply Nat.le_of_not_lt
  intro h1
  exact Nat.lt_irrefl _ (Nat.lt_of_lt_of_le (lt_of_len h1) h)

theorem copy_zeros {l : List Int} {L : Nat} (hl : l.length ≤ L) (hd : Dig l) : ∃ (c : Int) (U : List Int), own_copy.f (List.replicate L 0) l = some (c, U) ∧ U.length = L ∧ Dig U ∧ val U = val l := by
  refine ⟨_, _, rfl, ?_, ?_, ?_⟩
  · rw [List.length_append, List.length_take, List.length_drop, List.length_replicate]; omega
  · exact Dig_append.2 ⟨Dig_take hd _, Dig_drop (Dig_zeros L) _⟩
  · rw [List.length_replicate, Nat.min_eq_left hl, List.take_length, List.drop_replicate, val_append, val_zeros, Nat.mul_zero, Nat.add_zero]

theorem long_ix3 {N n : Nat} (hn : n ≤ N) (hN : N ≤ 1000000) : wrap64 ((N : Int) + 1) = ((N - n + 1 + n : Nat) : Int) ∧ wrap64 ((N : Int) - (n : Int)) = ((N - n + 1 : Nat) : Int) - 1 ∧ wrap64 (((N - n + 1 : Nat) : Int) - 1 + 1) = ((N - n + 1 : Nat) : Int) := by
  refine ⟨?_, ?_, ?_⟩
  · rw [w64 (by omega) (by omega)]; omega
  · rw [w64 (by omega) (by omega)]; omega
  · rw [w64 (by omega) (by omega)]; omega

theorem exp_split {N m0 : Nat} (h : m0 + 2 ≤ N) : 4294967296 ^ N = 4294967296 ^ (m0 + 1) * 4294967296 ^ (N - (m0 + 2) + 1) := by
  rw [← Nat.pow_add]
  congr 1
  omega

theorem long_sp {x y : Nat} (hy : 2 ≤ (dg y).length) (hxy : y ≤ x) (hx : (dg x).length ≤ 1000000) : Ev (fun k => quo_long.f k (dg x) (dg y)) (dg (x / y), dg (x % y), true) := by
  obtain ⟨m0, hm⟩ : ∃ m0, (dg y).length = m0 + 2 := ⟨(dg y).length - 2, by omega⟩
  obtain ⟨N, hN⟩ : ∃ N, (dg x).length = N := ⟨_, rfl⟩
  have hnN : m0 + 2 ≤ N := by rw [← hm, ← hN]; exact dg_len_mono hxy
  rw [hN] at hx
  have j1 : N - (m0 + 2) + 1 + (m0 + 2) ≤ 10000000 := by omega
  have j2 : N + 1 ≤ N - (m0 + 2) + 1 + (m0 + 2) := by omega
  have j3 : m0 + 2 ≤ 100000000 := by omega
  have j4 : N ≤ 100000000 := by omega
  have w0 : wrap64 (((m0 + 2 : Nat) : Int) - 1) = ((m0 + 1 : Nat) : Int) := by rw [w64 (by omega) (by omega)]; omega
  have i0 : ((m0 + 1 : Nat) : Int) < ((m0 + 2 : Nat) : Int) := by omega
  have i1 : N - (m0 + 2) + 1 + (m0 + 2) ≤ 70368744177664 := by omega
  have i2 : N - (m0 + 2) + 1 ≤ 70368744177664 := by omega
  obtain ⟨_, hd, hd0⟩ := bl_dg (v := y) (n := m0 + 1) hm
  have hxl : x < 4294967296 ^ N := lt_of_dg_length (Nat.le_of_eq hN)
  have hyl : y < 4294967296 ^ (m0 + 2) := lt_of_dg_length (Nat.le_of_eq hm)
  have hyg : 4294967296 ^ (m0 + 1) ≤ y := le_of_dg_length (by rw [hm]; exact Nat.le_refl _)
  have hy0 : 0 < y := Nat.lt_of_lt_of_le (pow_pos' _) hyg
  obtain ⟨n1, n2⟩ := norm_one hd0 hd
  have hk32 : 32 - bl (y / 4294967296 ^ (m0 + 1)) ≤ 32 := Nat.sub_le _ _
  have hdig : rd (dg y) ((m0 + 1 : Nat) : Int) = ((y / 4294967296 ^ (m0 + 1) : Nat) : Int) := by rw [rd_nat, dg_getD, Nat.mod_eq_of_lt hd]
  have hLZ := LZ_eq hd
  generalize 32 - bl (y / 4294967296 ^ (m0 + 1)) = k at n1 n2 hk32 hLZ
  obtain ⟨s1, s2⟩ := norm_num (pow_pos' (m0 + 1)) n1 n2
  have hp2 := Nat.two_pow_pos k
  have hlen' : (dg (y * 2 ^ k)).length = m0 + 2 := dg_len_eq (n := m0 + 1) (Nat.le_trans hyg (Nat.le_mul_of_pos_right _ hp2)) (by rw [Nat.pow_succ 4294967296 (m0 + 1)]; exact s2)
  have hxk : x * 2 ^ k < 4294967296 ^ (N + 1) := by
    rw [Nat.pow_succ]
    exact Nat.mul_lt_mul_of_lt_of_le hxl (Nat.le_trans (Nat.pow_le_pow_right (by decide) hk32) (by decide)) (by decide)
  have hXl : (dg (x * 2 ^ k)).length ≤ N - (m0 + 2) + 1 + (m0 + 2) := Nat.le_trans (dg_length_le hxk) j2
  obtain ⟨c, U, hc, hUl, hUd, hUv⟩ := copy_zeros hXl (Dig_dg _)
  rw [val_dg] at hUv
  obtain ⟨w1, w2, w3⟩ := long_ix3 hnN hx
  have hbd : Dig (dg (y * 2 ^ k)) := Dig_dg _
  have hbv : val (dg (y * 2 ^ k)) = y * 2 ^ k := val_dg _
  have hdiv : x * 2 ^ k / (y * 2 ^ k) = x / y := Nat.mul_div_mul_right x y hp2
  have hmod : x * 2 ^ k % (y * 2 ^ k) / 2 ^ k = x % y := by rw [Nat.mul_mod_mul_right, Nat.mul_div_cancel _ hp2]
  have hxq : x < y * 4294967296 ^ (N - (m0 + 2) + 1) := by
    rw [exp_split hnN] at hxl
    exact Nat.lt_of_lt_of_le hxl (Nat.mul_le_mul_right _ hyg)
  have hA : x * 2 ^ k / val (dg (y * 2 ^ k)) < 4294967296 ^ (N - (m0 + 2) + 1) := by
    rw [hbv, hdiv]; exact Nat.div_lt_of_lt_mul hxq
  have hUm : val U = x * 2 ^ k % (4294967296 ^ (N - (m0 + 2) + 1) * val (dg (y * 2 ^ k))) := by
    rw [hUv, hbv, Nat.mod_eq_of_lt]
    rw [← Nat.mul_assoc, Nat.mul_comm (4294967296 ^ _) y]
    exact Nat.mul_lt_mul_of_pos_right hxq hp2
  have hL := long_l0 hbd (n := m0 + 2) (m0 := m0) (mQ := N - (m0 + 2) + 1) (sh := k) (A := x * 2 ^ k) hlen' rfl (by rw [hbv]; exact s1) j1 (Nat.le_trans hk32 (by decide)) hA (N - (m0 + 2) + 1) U (List.replicate (N - (m0 + 2) + 1) 0) (Nat.le_refl _) hUl List.length_replicate hUd hUm (fun i h1 h2 => absurd h2 (Nat.not_lt.2 h1))
  rw [hbv, hdiv, hmod] at hL
  have hS1 : Ev (fun j => nat_Shl.f j (dg y) (k : Int)) (dg (y * 2 ^ k), true) := Ev.eq (Shl_sp (Dig_dg y) (by rw [hm]; exact j3)) (by rw [if_pos ⟨Int.natCast_nonneg k, Int.ofNat_le.2 (Nat.le_trans hk32 (by decide))⟩, val_dg, Int.toNat_natCast])
  have hS2 : Ev (fun j => nat_Shl.f j (dg x) (k : Int)) (dg (x * 2 ^ k), true) := Ev.eq (Shl_sp (Dig_dg x) (by rw [hN]; exact j4)) (by rw [if_pos ⟨Int.natCast_nonneg k, Int.ofNat_le.2 (Nat.le_trans hk32 (by decide))⟩, val_dg, Int.toNat_natCast])
  clear n1 n2 s1 s2 hxk hxq hA hUm hUv hxl hyl hyg hd hd0 hdiv hmod
  refine Ev.congr (f := ?F) (fun j => ?_) ?_
  rotate_left
  · unfold quo_long.f
    rw [hm, hN, w0, w1, if_pos (Int.natCast_nonneg _), if_pos i0, hdig, hLZ, Int.toNat_natCast]
  refine Ev.bind (f := fun j t => _) (Ev.now (k : Int)) (Ev.bind (f := fun j t => _) hS1 (Ev.ifp (Int.natCast_nonneg _) (Ev.ifp i1 (Ev.bind (f := fun j t => _) hS2 ?_))))
  rw [hc]
  refine Ev.bind (f := fun j t => _) (Ev.now (c, U)) ?_
  rw [show ((dg (y * 2 ^ k), true) : List Int × Bool).1.length = m0 + 2 from hlen', w2, w3, Int.toNat_natCast]
  exact Ev.ifp (Int.natCast_nonneg _) (Ev.ifp i2 hL)

theorem cmp_neg (x y : Nat) : cmp x y < 0 ↔ x < y := by
  unfold cmp
  by_cases h : x < y
  · rw [if_pos h]; exact ⟨fun _ => h, fun _ => by decide⟩
  · rw [if_neg h]
    by_cases h2 : x = y
    · rw [if_pos h2]; exact ⟨fun h3 => absurd h3 (by decide), fun h3 => absurd h3 h⟩
    · rw [if_neg h2]; exact ⟨fun h3 => absurd h3 (by decide), fun h3 => absurd h3 h⟩

theorem DivMod_n {a b : List Int} {x y n m : Nat} (ha : Nm a x n) (hb : Nm b y m) (hn : n ≤ 1000000) (hm : m ≤ 1000000) (hy : y ≠ 0) : Ev (fun k => quo_DivMod.f k a b) (dg (x / y), dg (x % y), true) := by
  have lx : (dg x).length ≤ 1000000 := Nat.le_trans ha.dg.len hn
  have ly : (dg y).length ≤ 1000000 := Nat.le_trans hb.dg.len hm
  have hl0 : ¬ ((dg y).length : Int) = 0 := fun h => hy (dg_length_zero.1 (by omega))
  refine Ev.bind (f := fun k t => _) (Trim_n hb (Nat.le_trans hm (by decide))) (Ev.bind (f := fun k t => _) (Trim_n ha (Nat.le_trans hn (by decide))) (Ev.ifn hl0 ?_))
  refine Ev.bind (f := fun k t => _) (Cmp_n ha.dg hb.dg (Nat.le_trans hn (by decide)) (Nat.le_trans hm (by decide))) ?_
  by_cases h : x < y
  · refine Ev.ifp ((cmp_neg x y).2 h) (Ev.eq (Ev.now _) ?_)
    rw [Nat.div_eq_of_lt h, Nat.mod_eq_of_lt h, dg_zero]
  · refine Ev.ifn (fun h1 => h ((cmp_neg x y).1 h1)) ?_
    by_cases h1 : (dg y).length = 1
    · have hyl : y < 4294967296 := lt_of_dg_length (n := y) (k := 1) (Nat.le_of_eq h1)
      have hrd : rd (dg y) 0 = (y : Int) := by
        have := rd_nat (dg y) 0
        rw [dg_one hy hyl] at this ⊢
        exact this
      have hS := short_sp (a := dg x) (Dig_dg x) (d := y) (by omega) hyl (Nat.le_trans lx (by decide))
      rw [val_dg] at hS
      refine Ev.ifp (by omega) (Ev.ifp (by omega) ?_)
      rw [hrd]
      exact Ev.bind (f := fun k t => _) hS (Ev.now _)
    · refine Ev.ifn (by omega) ?_
      exact Ev.bind (f := fun k t => _) (long_sp (by omega) (Nat.le_of_not_lt h) lx) (Ev.now _)

theorem DivMod_0 {a b : List Int} {x n m : Nat} (ha : Nm a x n) (hb : Nm b 0 m) (hn : n ≤ 1000000) (hm : m ≤ 1000000) : Ev (fun k => quo_DivMod.f k a b) ([], [], false) := by
  refine Ev.bind (f := fun k t => _) (Trim_n hb (Nat.le_trans hm (by decide))) (Ev.bind (f := fun k t => _) (Trim_n ha (Nat.le_trans hn (by decide))) ?_)
  exact Ev.ifp (by rw [dg_zero]; rfl) (Ev.now _)

theorem Gcd_l0 {n : Nat} (hn : n ≤ 1000000) : ∀ (y x : Nat), x < 4294967296 ^ n → y < 4294967296 ^ n → Ev (fun k => quo_Gcd.l0 k (dg x) (dg y)) (dg (Nat.gcd x y)) := by
  intro y
  induction y using Nat.strongRecOn with
  | _ y ih =>
  intro x hx hy
  by_cases h : y = 0
  · subst h
    refine Ev.step (f := fun _ => some (dg x)) (fun k => ?_) (Ev.eq (Ev.now _) (by rw [Nat.gcd_zero_right]))
    simp only [quo_Gcd.l0]
    rw [dg_zero, if_neg (by decide)]
  · have hl : ((dg y).length : Int) > 0 := by
      have : (dg y).length ≠ 0 := fun h1 => h (dg_length_zero.1 h1)
      clear hx hy
      omega
    have hlt : x % y < y := Nat.mod_lt _ (Nat.pos_of_ne_zero h)
    have hI := ih (x % y) hlt y hy (Nat.lt_trans hlt hy)
    rw [show Nat.gcd y (x % y) = Nat.gcd x y by rw [Nat.gcd_comm x y, Nat.gcd_rec y x, Nat.gcd_comm]] at hI
    have hD := DivMod_n (Nm.of hx) (Nm.of hy) hn hn h
    clear hx hy hlt
    refine Ev.step (f := ?F) (fun k => ?_) ?_
    rotate_left
    · simp only [quo_Gcd.l0]
      rw [if_pos hl]
    exact Ev.bind (f := fun k t => _) hD hI

theorem Gcd_n {a b : List Int} {x y n : Nat} (ha : Nm a x n) (hb : Nm b y n) (hn : n ≤ 1000000) : Ev (fun k => quo_Gcd.f k a b) (dg (Nat.gcd x y)) :=
  Ev.bind (f := fun k t => _) (Trim_n ha (Nat.le_trans hn (by decide))) (Ev.bind (f := fun k t => _) (Trim_n hb (Nat.le_trans hn (by decide))) (Gcd_l0 hn y x ha.lt hb.lt))

/-- The root of a number, downward. -/
def rt (x : Nat) : Nat := if _h : x = 0 then 0 else if (2 * rt (x / 4) + 1) * (2 * rt (x / 4) + 1) ≤ x then 2 * rt (x / 4) + 1 else 2 * rt (x / 4)
  decreasing_by all_goals omega

theorem rt_sp (x : Nat) : rt x * rt x ≤ x ∧ x < (rt x + 1) * (rt x + 1) := by
  induction x using Nat.strongRecOn with
  | _ x ih =>
    by_cases h : x = 0
    · subst h; rw [rt]; simp
    · obtain ⟨h1, h2⟩ := ih (x / 4) (by omega)
      rw [rt, dif_neg h]
      generalize rt (x / 4) = r at h1 h2 ⊢
      have e1 : (2 * r + 1) * (2 * r + 1) = 4 * (r * r) + 4 * r + 1 := by grind
      have e2 : (2 * r + 1 + 1) * (2 * r + 1 + 1) = 4 * (r * r) + 8 * r + 4 := by grind
      have e3 : 2 * r * (2 * r) = 4 * (r * r) := by grind
      have e4 : (r + 1) * (r + 1) = r * r + 2 * r + 1 := by grind
      rw [e4] at h2
      by_cases hc : (2 * r + 1) * (2 * r + 1) ≤ x
      · rw [if_pos hc, e2]
        refine ⟨hc, ?_⟩
        generalize r * r = q at h1 h2
        clear hc e1 e2 e3 e4
        omega
      · rw [if_neg hc, e3]
        rw [e1] at hc ⊢
        generalize r * r = q at h1 h2 hc ⊢
        clear e1 e2 e3 e4
        omega

theorem sq_le {a b : Nat} (h : a * a < (b + 1) * (b + 1)) : a ≤ b := by
  apply Nat.le_of_not_lt
  intro h1
  exact Nat.lt_irrefl _ (Nat.lt_of_lt_of_le h (Nat.mul_le_mul h1 h1))

theorem rt_eq {x s : Nat} (h1 : s * s ≤ x) (h2 : x < (s + 1) * (s + 1)) : s = rt x := by
  obtain ⟨r1, r2⟩ := rt_sp x
  exact Nat.le_antisymm (sq_le (Nat.lt_of_le_of_lt h1 r2)) (sq_le (Nat.lt_of_le_of_lt r1 h2))

theorem rt_le {x s : Nat} (h : s * s ≤ x) : s ≤ rt x := sq_le (Nat.lt_of_le_of_lt h (rt_sp x).2)

/-- Newton's next number is not below the root. -/
theorem newton_ge {x s r : Nat} (hs : 0 < s) (hr : r * r ≤ x) : r ≤ (s + x / s) / 2 := by
  have h : 2 * r ≤ s + x / s := by
    by_cases h1 : 2 * r ≤ s
    · exact Nat.le_trans h1 (Nat.le_add_right _ _)
    · have h2 : 2 * r - s ≤ x / s := by
        rw [Nat.le_div_iff_mul_le hs]
        refine Nat.le_trans ?_ hr
        obtain ⟨d, hd⟩ : ∃ d, 2 * r = s + d := ⟨2 * r - s, by omega⟩
        rw [hd, Nat.add_sub_cancel_left]
        rcases Nat.le_total s r with h3 | h3
        · obtain ⟨e, rfl⟩ : ∃ e, r = s + e := ⟨r - s, by omega⟩
          have : d = s + 2 * e := by omega
          subst this
          have e1 : (s + 2 * e) * s = s * s + 2 * (e * s) := by grind
          have e2 : (s + e) * (s + e) = s * s + 2 * (e * s) + e * e := by grind
          rw [e1, e2]
          exact Nat.le_add_right _ _
        · obtain ⟨e, rfl⟩ : ∃ e, s = r + e := ⟨s - r, by omega⟩
          have : r = d + e := by omega
          subst this
          have e1 : (d + e) * (d + e) = d * (d + e + e) + e * e := by grind
          rw [e1]
          exact Nat.le_add_right _ _
      omega
  omega

theorem newton_done {x s : Nat} (hs : 0 < s) (h : s ≤ (s + x / s) / 2) : s * s ≤ x := by
  have : s ≤ x / s := by
    generalize x / s = q at h
    omega
  exact (Nat.le_div_iff_mul_le hs).1 this

theorem cmp_ge' (x y : Nat) : cmp x y ≥ 0 ↔ y ≤ x := by
  have := cmp_neg x y
  constructor
  · intro h; exact Nat.le_of_not_lt (fun h1 => by have := this.2 h1; omega)
  · intro h; exact Int.le_of_not_gt (fun h1 => by have := this.1 h1; omega)

theorem Sqrt_l0 {a : List Int} {x n K : Nat} (ha : Nm a x n) (hx : x ≠ 0) (hn : n ≤ 1000) (hK : K ≤ 2000) :
    ∀ s : Nat, rt x ≤ s → s < 4294967296 ^ K → Ev (fun k => quo_Sqrt.l0 k a (dg s)) (dg (rt x), dg (x - rt x * rt x)) := by
  intro s
  induction s using Nat.strongRecOn with
  | _ s ih =>
  intro hs hsK
  obtain ⟨r1, r2⟩ := rt_sp x
  have hr0 : 0 < rt x := by
    apply Nat.pos_of_ne_zero
    intro h
    rw [h] at r2
    omega
  have hs0 : 0 < s := Nat.lt_of_lt_of_le hr0 hs
  have Ns : Nm (dg s) s K := Nm.of hsK
  have hD := DivMod_n ha Ns (Nat.le_trans hn (by decide)) (Nat.le_trans hK (by decide)) (Nat.ne_of_gt hs0)
  have Nq : Nm (dg (x / s)) (x / s) n := Nm.le ha (Nat.div_le_self _ _)
  have hA := Add_n Ns Nq (Nat.le_trans hK (by decide)) (Nat.le_trans hn (by decide))
  have NA : Nm (dg (s + x / s)) (s + x / s) 4000 := Nm.add Ns Nq (by clear hsK; omega) (by clear hsK; omega)
  have hS : Ev (fun k => nat_Shr.f k (dg (s + x / s)) 1) (dg ((s + x / s) / 2)) := Shr_n (s := 1) NA (by decide) (by decide)
  have NS : Nm (dg ((s + x / s) / 2)) ((s + x / s) / 2) 4000 := Nm.le NA (Nat.div_le_self _ _)
  have hC := Cmp_n NS Ns (by decide) (Nat.le_trans hK (by decide))
  have hge := newton_ge hs0 r1
  by_cases h : s ≤ (s + x / s) / 2
  · have hsq := newton_done hs0 h
    have hse : s = rt x := Nat.le_antisymm (rt_le hsq) hs
    have hM := Mul_n Ns Ns (Nat.le_trans hK (by decide)) (Nat.le_trans hK (by decide))
    have NM : Nm (dg (s * s)) (s * s) n := Nm.le ha hsq
    have hR := Sub_y ha NM (Nat.le_trans hn (by decide)) (Nat.le_trans hn (by decide)) hsq
    rw [← hse]
    clear hsK
    refine Ev.step (f := ?F) (fun k => ?_) ?_
    rotate_left
    · simp only [quo_Sqrt.l0]
      rfl
    refine Ev.bind (f := fun k t => _) hD (Ev.bind (f := fun k t => _) hA (Ev.bind (f := fun k t => _) hS (Ev.bind (f := fun k t => _) hC ?_)))
    refine Ev.ifp ((cmp_ge' _ _).2 h) ?_
    exact Ev.bind (f := fun k t => _) hM (Ev.bind (f := fun k t => _) hR (Ev.now _))
  · have hlt : (s + x / s) / 2 < s := Nat.lt_of_not_le h
    have hI := ih _ hlt hge (Nat.lt_trans hlt hsK)
    clear hsK
    refine Ev.step (f := ?G) (fun k => ?_) ?_
    rotate_left
    · simp only [quo_Sqrt.l0]
      rfl
    refine Ev.bind (f := fun k t => _) hD (Ev.bind (f := fun k t => _) hA (Ev.bind (f := fun k t => _) hS (Ev.bind (f := fun k t => _) hC ?_)))
    exact Ev.ifn (fun h1 => h ((cmp_ge' _ _).1 h1)) hI

theorem start_ge (x : Nat) : rt x ≤ 1 * 2 ^ ((bl x + 1) / 2) := by
  rw [Nat.one_mul]
  obtain ⟨r1, _⟩ := rt_sp x
  apply sq_le
  have h1 : x < 2 ^ bl x := bl_le.1 (Nat.le_refl _)
  have h2 : 2 ^ bl x ≤ 2 ^ ((bl x + 1) / 2) * 2 ^ ((bl x + 1) / 2) := by
    rw [← Nat.pow_add]
    exact Nat.pow_le_pow_right (by decide) (by omega)
  refine Nat.lt_of_le_of_lt r1 (Nat.lt_of_lt_of_le h1 (Nat.le_trans h2 ?_))
  exact Nat.mul_le_mul (Nat.le_succ _) (Nat.le_succ _)

theorem Sqrt_n {a : List Int} {x n : Nat} (ha : Nm a x n) (hn : n ≤ 1000) : Ev (fun k => quo_Sqrt.f k a) (dg (rt x), dg (x - rt x * rt x)) := by
  refine Ev.bind (f := fun k t => _) (Trim_n ha (Nat.le_trans hn (by decide))) ?_
  by_cases h : x = 0
  · subst h
    have e : rt 0 = 0 := by rw [rt]; rfl
    rw [e, Nat.mul_zero, Nat.sub_zero]
    exact Ev.ifp (by rw [dg_zero]; rfl) (Ev.eq (Ev.now _) (by rw [dg_zero]))
  · have hl : ¬ ((dg x).length : Int) = 0 := fun h1 => h (dg_length_zero.1 (by omega))
    have hb : bl x ≤ 32 * n := bl_le.2 (by have := ha.lt; rw [pow32] at this; exact this)
    have hbd := Bits_n ha.dg (Nat.le_trans hn (by decide))
    have ew : wrap64 (Int.tdiv (wrap64 ((bl x : Int) + 1)) 2) = (((bl x + 1) / 2 : Nat) : Int) := by
      rw [w64 (x := (bl x : Int) + 1) (by omega) (by omega)]
      have : Int.tdiv ((bl x : Int) + 1) 2 = (((bl x + 1) / 2 : Nat) : Int) := rfl
      rw [this, w64 (by omega) (by omega)]
    have one : Nm (dg 1) 1 1 := Nm.of (by decide)
    have hF : Ev (fun k => nat_From.f k 1) (dg 1) := From_sp (n := 1) (by decide) (by decide)
    have hS := Shl_n one (by decide) (show (bl x + 1) / 2 ≤ 100000 by omega)
    have NS : Nm (dg (1 * 2 ^ ((bl x + 1) / 2))) (1 * 2 ^ ((bl x + 1) / 2)) 2000 := (Nm.shl one).mono (by omega)
    have hI := Sqrt_l0 ha.dg h hn (by decide) _ (start_ge x) NS.lt
    refine Ev.ifn hl (Ev.bind (f := fun k t => _) hF (Ev.bind (f := fun k t => _) hbd ?_))
    rw [ew]
    exact Ev.bind (f := fun k t => _) hS hI

theorem digits03_loop (a : List Int) (hn : a.length ≤ 1000000000) : ∀ (d i : Nat), d + i = a.length → Ev (fun k => astrolabelaw03_digits.l0 k a a i) true := by
  intro d
  induction d with
  | zero =>
    intro i hi
    refine Ev.step (f := fun _ => some true) (fun k => ?_) (Ev.now _)
    simp only [astrolabelaw03_digits.l0]
    rw [if_neg (by omega)]
  | succ d ih =>
    intro i hi
    refine Ev.step (fun k => ?_) (ih (i + 1) (by omega))
    have hw : wrap64 ((i : Int) + 1) = ((i + 1 : Nat) : Int) := by rw [w64] <;> omega
    simp only [astrolabelaw03_digits.l0]
    rw [if_pos (by omega), if_pos (by omega), if_pos (by omega), if_pos trivial, hw]

theorem digits03_t {a b : List Int} (h : a = b) (hn : a.length ≤ 1000000000) : Ev (fun k => astrolabelaw03_digits.f k a b) true := by
  subst h
  refine Ev.congr (fun k => ?_) (digits03_loop a hn a.length 0 (by omega))
  unfold astrolabelaw03_digits.f
  rw [if_pos rfl]
  rfl

theorem digits03_n {x y n : Nat} {l : List Int} (hx : Nm l x n) (h : x = y) (hn : n ≤ 1000000000) : Ev (fun k => astrolabelaw03_digits.f k (dg x) (dg y)) true :=
  digits03_t (by rw [h]) (Nat.le_trans hx.dg.len hn)

theorem examples03 : Ev (fun k => astrolabelaw03_examples.f k) true := by
  unfold astrolabelaw03_examples.f
  have e1 : ((0 : Int).toNat + 4294967296 * ((0 : Int).toNat + 4294967296 * (1 : Int).toNat)) / (10 : Int).toNat = 2576980377 + 4294967296 * 429496729 := by decide
  have e2 : ((0 : Int).toNat + 4294967296 * ((0 : Int).toNat + 4294967296 * (1 : Int).toNat)) % (10 : Int).toNat = 6 := by decide
  have hD := Ev.eq (DivMod_n (nm3 (d := 0) (e := 0) (f := 1) (by decide) (by decide) (by decide)) (nm1 (d := 10) (by decide)) (by decide) (by decide) (by decide)) (s := ([2576980377, 429496729], [6], true)) (by
    rw [e1, e2, dg2 (d := 2576980377) (e := 429496729) rfl (by decide) (by decide) (by decide), dg_one (d := 6) (by decide) (by decide)]; rfl)
  have r1 : rt (99 : Int).toNat = 9 := (rt_eq (x := (99 : Int).toNat) (s := 9) (by decide) (by decide)).symm
  have hS := Ev.eq (Sqrt_n (nm1 (d := 99) (by decide)) (by decide)) (s := ([9], [18])) (by
    rw [r1, dg_one (d := 9) (by decide) (by decide), show (99 : Int).toNat - 9 * 9 = 18 from rfl, dg_one (d := 18) (by decide) (by decide)]; rfl)
  have hG := Ev.eq (Gcd_n (nm1 (d := 12) (by decide)) (nm1 (d := 18) (by decide)) (by decide)) (s := [6]) (by
    rw [show Nat.gcd (12 : Int).toNat (18 : Int).toNat = 6 by decide, dg_one (d := 6) (by decide) (by decide)]; rfl)
  refine Ev.bind (f := fun k t => _) hD ?_
  refine Ev.bind (f := fun k t => _) (digits03_t (a := [2576980377, 429496729]) rfl (by decide)) ?_
  refine Ev.bind (f := fun k t => _) (digits03_t (a := [6]) rfl (by decide)) ?_
  refine Ev.bind (f := fun k t => _) hS ?_
  refine Ev.bind (f := fun k t => _) (digits03_t (a := [9]) rfl (by decide)) ?_
  refine Ev.bind (f := fun k t => _) (digits03_t (a := [18]) rfl (by decide)) ?_
  refine Ev.bind (f := fun k t => _) hG ?_
  refine Ev.bind (f := fun k t => _) (digits03_t (a := [6]) rfl (by decide)) ?_
  exact Ev.ifp rfl (Ev.ifp rfl (Ev.ifp rfl (Ev.ifp rfl (Ev.ifp rfl (Ev.now true)))))

theorem rTrim_loop (l : List Int) (h : Dig l) (hl : l.length ≤ 1000000000) : ∀ n : Nat, n ≤ l.length → val (l.take n) = val l → Ev (fun k => astrolaberef01_Trim.l0 k l n) (dg (val l)) := by
  intro n
  induction n with
  | zero =>
    intro _ hv
    have h0 : val l = 0 := hv.symm
    refine Ev.step (f := fun _ => some []) (fun k => ?_) (Ev.eq (Ev.now _) (by rw [h0, dg_zero]))
    simp only [astrolaberef01_Trim.l0]
    rw [if_neg (by decide), if_pos (by decide), if_pos (by omega), if_pos (by simp)]
    rfl
  | succ n ih =>
    intro hn hv
    have hw : wrap64 (((n + 1 : Nat) : Int) - 1) = (n : Int) := by rw [w64] <;> omega
    by_cases h0 : l.getD n 0 = 0
    · have hv2 : val (l.take n) = val l := by
        rw [val_take_succ, h0] at hv
        rw [← hv]; rfl
      refine Ev.step (fun k => ?_) (ih (by omega) hv2)
      simp only [astrolaberef01_Trim.l0]
      rw [if_pos (by omega), hw, if_pos (by omega), if_pos (by omega), rd_nat, if_pos h0]
    · have hs : dg (val l) = l.take (n + 1) := by
        rw [← hv]
        refine dg_val ⟨Dig_take h _, .inr ?_⟩
        rw [List.length_take, Nat.min_eq_left hn, Nat.add_sub_cancel, List.getD_eq_getElem?_getD, List.getElem?_take, if_pos (by omega), ← List.getD_eq_getElem?_getD]
        exact h0
      have hlen : (l.take (n + 1)).length ≤ 1000000000 := by rw [List.length_take]; omega
      refine Ev.step (f := fun _ => some (l.take (n + 1))) (fun k => ?_) (Ev.eq (Ev.now _) hs.symm)
      simp only [astrolaberef01_Trim.l0]
      rw [if_pos (by omega), hw, if_pos (by omega), if_pos (by omega), rd_nat, if_neg h0, if_pos (by omega), if_pos (by omega), Int.toNat_natCast, if_pos (by rw [List.length_nil]; omega), List.nil_append]

theorem rTrim_sp {l : List Int} (h : Dig l) (hl : l.length ≤ 1000000000) : Ev (fun k => astrolaberef01_Trim.f k l) (dg (val l)) :=
  rTrim_loop l h hl l.length (Nat.le_refl _) (take_all_val l)

theorem rat_eq {l : List Int} (h : Dig l) (i : Nat) : astrolaberef01_at.f l i = some (l.getD i 0) := by
  unfold astrolaberef01_at.f
  by_cases hi : i < l.length
  · rw [if_neg (by omega), if_pos (by omega), if_pos (by omega), rd_nat, dig64 (Dig_getD h i)]
  · rw [if_pos (by omega), getD_ge l (by omega)]

theorem rFrom_sp {n : Int} (h0 : 0 ≤ n) (h1 : n < 18446744073709551616) : Ev (fun k => astrolaberef01_From.f k n) (dg n.toNat) := by
  refine Ev.bind (f := fun _ t => some t) (Ev.eq (rTrim_sp (l := [n % 4294967296, (n / 4294967296) % 4294967296]) ?_ (by simp)) ?_) (Ev.now _)
  · intro x hx; simp at hx; omega
  · rw [val_two]; congr 1; omega

theorem rBits_loop : ∀ (m d c : Nat), d < 2 ^ m → c + m ≤ 10000000000 → Ev (fun k => astrolaberef01_Bits.l0 k c d) ((c + bl d : Nat) : Int) := by
  intro m
  have last : ∀ c : Nat, Ev (fun k => astrolaberef01_Bits.l0 k c ((0 : Nat) : Int)) ((c + bl 0 : Nat) : Int) := by
    intro c
    refine Ev.step (f := fun _ => some (c : Int)) (fun k => ?_) (Ev.eq (Ev.now _) (by rw [show bl 0 = 0 from rfl, Nat.add_zero]))
    simp only [astrolaberef01_Bits.l0]
    rw [if_neg (by decide)]
  induction m with
  | zero =>
    intro d c hd _
    have : d = 0 := by omega
    subst this
    exact last c
  | succ m ih =>
    intro d c hd hc
    by_cases h0 : d = 0
    · subst h0; exact last c
    · have hh : bl d = bl (d / 2) + 1 := by
        unfold bl
        rw [if_neg h0]
        by_cases h1 : d / 2 = 0
        · rw [if_pos h1]
          have : d = 1 := by omega
          subst this; decide
        · rw [if_neg h1, Nat.log2_def d, if_pos (by omega)]
      have hlt : d / 2 < 2 ^ m := by rw [Nat.pow_succ] at hd; omega
      refine Ev.eq (Ev.step (fun k => ?_) (ih (d / 2) (c + 1) hlt (by omega))) (by rw [hh]; congr 1; omega)
      simp only [astrolaberef01_Bits.l0]
      have e1 : wrap64 ((c : Int) + 1) = ((c + 1 : Nat) : Int) := by rw [w64] <;> omega
      have e2 : (d : Int) / 2 = ((d / 2 : Nat) : Int) := by omega
      rw [if_pos (by omega), e1, e2]

theorem rBits_sp {l : List Int} (h : Dig l) (hl : l.length ≤ 10000000) : Ev (fun k => astrolaberef01_Bits.f k l) (bl (val l) : Int) := by
  have hlen := dg_len h
  refine Ev.bind (f := fun _ t => _) (rTrim_sp h (by omega)) ?_
  generalize val l = v at hlen ⊢
  by_cases h0 : (dg v).length = 0
  · have := dg_length_zero.1 h0
    subst this
    exact Ev.ifp (by omega) (Ev.now _)
  obtain ⟨n, hn⟩ : ∃ n, (dg v).length = n + 1 := ⟨(dg v).length - 1, by omega⟩
  obtain ⟨b1, b2, b3⟩ := bl_dg hn
  have hw : wrap64 (((dg v).length : Int) - 1) = (n : Int) := by rw [w64] <;> omega
  have hd : rd (dg v) (n : Int) = ((v / 4294967296 ^ n : Nat) : Int) := by rw [rd_nat, dg_getD, Nat.mod_eq_of_lt b2]
  generalize v / 4294967296 ^ n = q at b1 b2 b3 hd
  have h2 := rBits_loop 32 q (32 * n) b2 (by omega)
  rw [← b1] at h2
  refine Ev.congr (fun k => ?_) h2
  have hw2 : wrap64 (32 * (n : Int)) = ((32 * n : Nat) : Int) := by rw [w64] <;> omega
  rw [if_neg (by omega), hw, if_pos (by omega), if_pos (by omega), hd, hw2]

theorem or64c {x c r : Nat} (hx : x < 4294967296) (hr : r < 32) (hc : c < 2 ^ r) : Go.bits .or .u64 ((x * 2 ^ r : Nat) : Int) (c : Int) = ((x * 2 ^ r + c : Nat) : Int) := by
  have h2 : 2 ^ r ≤ 2147483648 := Nat.pow_le_pow_right (n := 2) (by omega) (show r ≤ 31 by omega)
  have h3 := Nat.mul_le_mul (show x ≤ 4294967295 by omega) h2
  have hm : x * 2 ^ r % 2 ^ r = 0 := Nat.mul_mod_left x (2 ^ r)
  have e := (bits_nat .u64 64 (by decide) (fun n h0 h1 => u64 h0 (by omega)) (x * 2 ^ r) c (by omega) (by omega)).2
  rw [e, Nat.or_comm, or_low hc hm, Nat.add_comm]

theorem Dig_snoc {l : List Int} {v : Int} (h : Dig l) (hv : 0 ≤ v ∧ v < 4294967296) : Dig (l ++ [v]) := Dig_append.2 ⟨h, Dig_cons.2 ⟨hv, Dig_nil⟩⟩

theorem val_snoc (l : List Int) (v : Int) : val (l ++ [v]) = val l + 4294967296 ^ l.length * v.toNat := by
  rw [val_append, val_cons, val_nil, Nat.mul_zero, Nat.add_zero]

theorem rshl_alg {vo V b w p x c P lo hi : Nat} (hv : vo + b * w * c = V * p * b) (hP : P = x * p + c) (hl : lo + 4294967296 * hi = P) : vo + b * w * lo + b * w * (4294967296 * hi) = (V + w * x) * p * b := by
  have : b * w * lo + b * w * (4294967296 * hi) = b * w * (x * p) + b * w * c := by rw [← Nat.mul_add, ← Nat.mul_add, hl, hP]
  rw [Nat.add_assoc, this, Nat.add_comm (b * w * (x * p)), ← Nat.add_assoc, hv]
  exact shl_alg _ _ _ _ _

theorem rShl_loop (a : List Int) (ha : Dig a) (hn : a.length ≤ 100000000) (n q r : Nat) (hqr : n = 32 * q + r) (hr : r < 32) (hn2 : n ≤ 100000) :
    ∀ (d i : Nat) (out : List Int) (c : Nat), d + i = a.length → out.length = q + i → Dig out → c < 2 ^ r → val out + 4294967296 ^ q * 4294967296 ^ i * c = val (a.take i) * 2 ^ r * 4294967296 ^ q →
      Ev (fun k => astrolaberef01_Shl.l0 k a n out c i) (dg (val a * 2 ^ n), true) := by
  have h31 : 2 ^ r ≤ 2147483648 := Nat.pow_le_pow_right (n := 2) (by omega) (show r ≤ 31 by omega)
  intro d
  induction d with
  | zero =>
    intro i out c hd ho hdo hc hv
    have e : i = a.length := by omega
    subst e
    have hc2 : (c : Int) % 4294967296 = (c : Int) := by clear hv; omega
    have hv2 : val (out ++ [(c : Int) % 4294967296]) = val a * 2 ^ n := by
      rw [val_snoc, hc2, Int.toNat_natCast, ho, Nat.pow_add, hv, take_all_val, hqr, Nat.pow_add, Nat.pow_mul]
      rw [Nat.mul_assoc, Nat.mul_comm (2 ^ r)]
    have hdl : Dig (out ++ [(c : Int) % 4294967296]) := Dig_snoc hdo (mod_bd _)
    rw [← hv2]
    have hlen : (out ++ [(c : Int) % 4294967296]).length ≤ 1000000000 := by clear hv hv2; rw [List.length_append, ho]; simp; omega
    have f1 : out.length < 35184372088832 := by clear hv hv2; omega
    clear hv hv2
    refine Ev.step (f := fun k => (astrolaberef01_Trim.f k (out ++ [(c : Int) % 4294967296])).bind fun t => some (t, true)) (fun k => ?_) (Ev.bind (f := fun _ t => some (t, true)) (rTrim_sp hdl hlen) (Ev.now _))
    simp only [astrolaberef01_Shl.l0]
    rw [if_neg (Int.lt_irrefl _), if_pos f1]
  | succ d ih =>
    intro i out c hd ho hdo hc hv
    have hx := Dig_getD ha i
    have hxn : (a.getD i 0).toNat < 4294967296 := by clear hv; omega
    obtain ⟨P, hP⟩ : ∃ P, P = (a.getD i 0).toNat * 2 ^ r + c := ⟨_, rfl⟩
    have hPl : P / 4294967296 < 2 ^ r := by
      rw [Nat.div_lt_iff_lt_mul (by decide), hP, Nat.mul_comm (2 ^ r)]
      have := Nat.mul_le_mul_right (2 ^ r) (show (a.getD i 0).toNat + 1 ≤ 4294967296 from hxn)
      rw [Nat.add_mul, Nat.one_mul] at this
      exact Nat.lt_of_lt_of_le (Nat.add_lt_add_left hc _) this
    have f1 : out.length < 35184372088832 := by clear hv; omega
    have f2 : (i : Int) < (a.length : Int) := by clear hv; omega
    have f3 : (0 : Int) ≤ (i : Int) := Int.natCast_nonneg i
    have f4 : (0 : Int) ≤ (r : Int) := Int.natCast_nonneg r
    have f5 : d + (i + 1) = a.length := by clear hv; omega
    have f6 : (out ++ [((P : Int) % 4294967296)]).length = q + (i + 1) := by rw [List.length_append, ho]; rfl
    have t2 : Int.tmod (n : Int) 32 = (r : Nat) := by
      have : Int.tmod (n : Int) 32 = ((n % 32 : Nat) : Int) := rfl
      rw [this]; omega
    have t5 : wrap64 ((i : Int) + 1) = (i + 1 : Nat) := by clear hv t2; rw [w64] <;> omega
    have hPd : (P : Int) / 4294967296 = ((P / 4294967296 : Nat) : Int) := by omega
    have hPm : ((P : Int) % 4294967296).toNat = P % 4294967296 := by omega
    have key : Ev (fun k => astrolaberef01_Shl.l0 k a n (out ++ [((P : Int) % 4294967296)]) ((P / 4294967296 : Nat) : Int) (i + 1 : Nat)) (dg (val a * 2 ^ n), true) := by
      refine ih (i + 1) _ _ f5 f6 (Dig_snoc hdo (mod_bd _)) hPl ?_
      rw [val_snoc, hPm, ho, val_take_succ, Nat.pow_add, Nat.pow_succ, ← Nat.mul_assoc (4294967296 ^ q), Nat.mul_assoc (4294967296 ^ q * 4294967296 ^ i)]
      exact rshl_alg hv hP (Nat.mod_add_div P 4294967296)
    refine Ev.step (fun k => ?_) key
    clear key ih hv
    simp only [astrolaberef01_Shl.l0]
    rw [if_pos f2, if_pos f3, t2, if_pos f4, if_pos f1, t5, rd_nat, shl64 hx hr, or64c hxn hr hc, ← hP, hPd]

theorem rShl_sp {l : List Int} {n : Int} (h : Dig l) (hl : l.length ≤ 100000000) :
    Ev (fun k => astrolaberef01_Shl.f k l n) (if 0 ≤ n ∧ n ≤ 100000 then (dg (val l * 2 ^ n.toNat), true) else ([], false)) := by
  by_cases hb : 0 ≤ n ∧ n ≤ 100000
  · rw [if_pos hb]
    obtain ⟨m, rfl⟩ := Int.eq_ofNat_of_zero_le hb.1
    have hm : m ≤ 100000 := by omega
    rw [Int.toNat_natCast]
    have h0 := rShl_loop l h hl m (m / 32) (m % 32) (by omega) (by omega) hm l.length 0 (List.replicate (m / 32) 0) 0 (by omega) (by simp) (Dig_zeros _) (Nat.two_pow_pos _) (by rw [val_zeros, take_zero_val, Nat.mul_zero, Nat.zero_mul, Nat.zero_mul])
    have t1 : wrap64 (Int.tdiv (m : Int) 32) = (m / 32 : Nat) := by
      have : Int.tdiv (m : Int) 32 = ((m / 32 : Nat) : Int) := rfl
      rw [this, w64] <;> omega
    refine Ev.congr (f := fun k => astrolaberef01_Shl.j0 k l m false) (fun k => ?_) (Ev.step (fun k => ?_) h0)
    · unfold astrolaberef01_Shl.f
      rw [if_neg (by omega), decide_eq_false (by omega)]
    · simp only [astrolaberef01_Shl.j0]
      rw [if_neg (by decide), t1, if_pos (Int.natCast_nonneg _), if_pos (by omega)]
      rfl
  · rw [if_neg hb]
    refine Ev.step (f := fun _ => some ([], false)) (fun k => ?_) (Ev.now _)
    unfold astrolaberef01_Shl.f
    by_cases h0 : n < 0
    · rw [if_pos h0]; simp [astrolaberef01_Shl.j0]
    · rw [if_neg h0, decide_eq_true (by omega)]; simp [astrolaberef01_Shl.j0]

theorem rShr_loop (a : List Int) (ha : Dig a) (hn : a.length ≤ 100000000) (n q r : Nat) (hr : n % 32 = r) (hqa : q ≤ a.length) :
    ∀ (d i : Nat) (out : List Int), d + (q + i) = a.length → out.length = i → Dig out → (∀ m, m < i → out.getD m 0 = ((val a / 4294967296 ^ q / 2 ^ r / 4294967296 ^ m % 4294967296 : Nat) : Int)) →
      Ev (fun k => astrolaberef01_Shr.l0 k a n out (q + i : Nat)) (dg (val a / 4294967296 ^ q / 2 ^ r)) := by
  have hr32 : r < 32 := by omega
  intro d
  induction d with
  | zero =>
    intro i out hd ho hdo hv
    have h1 := val_of_digits (val a / 4294967296 ^ q / 2 ^ r) out (fun m hm => hv m (by rw [← ho]; exact hm))
    have hlt : val a / 4294967296 ^ q / 2 ^ r < 4294967296 ^ out.length := by
      refine Nat.lt_of_le_of_lt (Nat.div_le_self _ _) ?_
      rw [Nat.div_lt_iff_lt_mul (pow_pos' q), ← Nat.pow_add, show out.length + q = a.length by clear hv h1; omega]
      exact val_lt ha
    rw [Nat.mod_eq_of_lt hlt] at h1
    rw [← h1]
    clear hlt h1 hv
    refine Ev.step (f := fun k => (astrolaberef01_Trim.f k out).bind fun t => some t) (fun k => ?_) (Ev.bind (f := fun _ t => some t) (rTrim_sp hdo (by omega)) (Ev.now _))
    simp only [astrolaberef01_Shr.l0]
    rw [if_neg (by omega)]
  | succ d ih =>
    intro i out hd ho hdo hv
    have hx := Dig_getD ha (q + i)
    have hx1 := Dig_getD ha (q + i + 1)
    have f1 : ((q + i : Nat) : Int) < (a.length : Int) := by clear hv; omega
    have f2 : (0 : Int) ≤ (r : Int) := Int.natCast_nonneg r
    have f3 : out.length < 35184372088832 := by clear hv; omega
    have f4 : d + (q + (i + 1)) = a.length := by clear hv; omega
    have t2 : Int.tmod (n : Int) 32 = (r : Nat) := by
      have : Int.tmod (n : Int) 32 = ((n % 32 : Nat) : Int) := rfl
      rw [this]; omega
    have t5 : wrap64 (((q + i : Nat) : Int) + 1) = (q + i + 1 : Nat) := by clear hv t2; rw [w64] <;> omega
    have dig : ∀ m, a.getD (q + m) 0 = ((val a / 4294967296 ^ q / 4294967296 ^ m % 4294967296 : Nat) : Int) := by
      intro m
      rw [getD_val ha, Nat.pow_add, Nat.div_div_eq_div_mul]
    have hvd : (a.getD (q + i) 0 + a.getD (q + i + 1) 0 * 4294967296) / 2 ^ r % 4294967296 = ((val a / 4294967296 ^ q / 2 ^ r / 4294967296 ^ i % 4294967296 : Nat) : Int) := by
      rw [← shr_digit hr32, dig i, show q + i + 1 = q + (i + 1) from rfl, dig (i + 1)]
      exact cast_shr _ _ _
    have key : Ev (fun k => astrolaberef01_Shr.l0 k a n (out ++ [(a.getD (q + i) 0 + a.getD (q + i + 1) 0 * 4294967296) / 2 ^ r % 4294967296]) (q + (i + 1) : Nat)) (dg (val a / 4294967296 ^ q / 2 ^ r)) := by
      refine ih (i + 1) _ f4 (by rw [List.length_append, ho]; rfl) (Dig_snoc hdo (mod_bd _)) (fun m hm => ?_)
      rw [List.getD_eq_getElem?_getD, List.getElem?_append]
      by_cases hmi : m < out.length
      · rw [if_pos hmi, ← List.getD_eq_getElem?_getD]
        exact hv m (by rw [← ho]; exact hmi)
      · have hme : m = i := by clear hv hvd; omega
        subst hme
        rw [if_neg hmi, ho, Nat.sub_self, hvd]
        rfl
    refine Ev.step (fun k => ?_) key
    clear key ih hv hvd dig
    simp only [astrolaberef01_Shr.l0]
    rw [if_pos f1, t5, rat_eq ha, rat_eq ha]
    simp only [Option.bind_some]
    rw [t2, if_pos f2, if_pos f3, or64' hx1 hx, shr64 hr32]
    rfl

theorem rShr_sp {l : List Int} {n : Int} (h : Dig l) (hl : l.length ≤ 100000000) (hn : n ≤ 9223372036854775807) :
    Ev (fun k => astrolaberef01_Shr.f k l n) (if n < 0 then dg (val l) else dg (val l / 2 ^ n.toNat)) := by
  unfold astrolaberef01_Shr.f
  by_cases h0 : n < 0
  · rw [if_pos h0]
    exact Ev.ifp h0 (Ev.bind (f := fun _ t => some t) (rTrim_sp h (by omega)) (Ev.now _))
  rw [if_neg h0]
  refine Ev.ifn h0 ?_
  obtain ⟨m, rfl⟩ := Int.eq_ofNat_of_zero_le (show 0 ≤ n by omega)
  rw [Int.toNat_natCast, div_two_pow]
  have t1 : wrap64 (Int.tdiv (m : Int) 32) = (m / 32 : Nat) := by
    have : Int.tdiv (m : Int) 32 = ((m / 32 : Nat) : Int) := rfl
    rw [this, w64] <;> omega
  rw [t1]
  by_cases h1 : l.length ≤ m / 32
  · have hz : val l / 4294967296 ^ (m / 32) = 0 := Nat.div_eq_of_lt (Nat.lt_of_lt_of_le (val_lt h) (Nat.pow_le_pow_right (by decide) h1))
    rw [hz, Nat.zero_div, dg_zero]
    exact Ev.ifp (by omega) (Ev.now _)
  · refine Ev.ifn (by omega) ?_
    exact rShr_loop l h hl m (m / 32) (m % 32) rfl (by omega) (l.length - m / 32) 0 [] (by omega) rfl Dig_nil (fun m hm => absurd hm (by omega))

theorem mx_nat (a b : Nat) : mx (a : Int) (b : Int) = ((max a b : Nat) : Int) := by
  unfold mx
  by_cases h : a < b
  · rw [if_pos (by omega), Nat.max_eq_right (by omega)]
  · rw [if_neg (by omega), Nat.max_eq_left (by omega)]

theorem rMul_inner (a b : List Int) (ha : Dig a) (hb : Dig b) (i : Nat) (hi : i < a.length) (hla : a.length ≤ 100000000) (hlb : b.length ≤ 100000000) (V : Nat) (r : List Int)
    (hnext : ∀ out : List Int, out.length = a.length + b.length → Dig out → (∀ q, i + b.length + 1 ≤ q → out.getD q 0 = 0) → val out = V + 4294967296 ^ i * ((a.getD i 0).toNat * val b) → Ev (fun k => astrolaberef01_Mul.l0 k a b out (i + 1 : Nat)) r) :
    ∀ (d j : Nat) (out : List Int) (c : Int), d + j = b.length → out.length = a.length + b.length → Dig out → (∀ q, i + b.length ≤ q → out.getD q 0 = 0) → 0 ≤ c ∧ c < 4294967296 →
      val out + 4294967296 ^ (i + j) * c.toNat = V + 4294967296 ^ i * ((a.getD i 0).toNat * val (b.take j)) →
      Ev (fun k => astrolaberef01_Mul.l1 k a b out i c j) r := by
  have hx := Dig_getD ha i
  have f3 : (0 : Int) ≤ (i : Int) := Int.natCast_nonneg i
  have f6 : (i : Int) < (a.length : Int) := Int.ofNat_lt.2 hi
  intro d
  induction d with
  | zero =>
    intro j out c hd ho hdo hz hc hv
    have e : j = b.length := by clear hv; omega
    subst e
    have g1 : wrap64 ((i : Int) + (b.length : Int)) = ((i + b.length : Nat) : Int) := by clear hv; rw [w64] <;> omega
    have g2 : wrap64 ((i : Int) + 1) = ((i + 1 : Nat) : Int) := by clear hv g1; rw [w64] <;> omega
    have g3 : ((i + b.length : Nat) : Int) < (out.length : Int) := by clear hv; omega
    have g4 : i + b.length < out.length := by clear hv; omega
    have g5 : ∀ q, i + b.length + 1 ≤ q → ¬ (i + b.length = q ∧ i + b.length < out.length) := fun q hq h => by clear hv; omega
    have h1 : Ev (fun k => astrolaberef01_Mul.l0 k a b (out.set (i + b.length) (c % 4294967296)) (i + 1 : Nat)) r := by
      refine hnext _ (by simpa using ho) (Dig_set hdo _ (mod_bd _)) (fun q hq => ?_) ?_
      · rw [getD_set, if_neg (g5 q hq)]; exact hz q (by clear hv; omega)
      · have hs := val_set out (i + b.length) (c % 4294967296) g4
        rw [hz _ (Nat.le_refl _), Int.emod_eq_of_lt hc.1 hc.2] at hs
        rw [Int.emod_eq_of_lt hc.1 hc.2]
        rw [take_all_val] at hv
        rw [Int.toNat_zero, Nat.mul_zero, Nat.add_zero] at hs
        rw [hs, hv]
    refine Ev.step (fun k => ?_) h1
    clear h1 hv hz hnext
    simp only [astrolaberef01_Mul.l1]
    rw [if_neg (Int.lt_irrefl _), g1, if_pos (Int.natCast_nonneg _), if_pos g3, g2]
    rfl
  | succ d ih =>
    intro j out c hd ho hdo hz hc hv
    have e1 : d + (j + 1) = b.length := by clear hv; omega
    have e3 : i + j < out.length := by clear hv; omega
    have e7 : ∀ q, i + b.length ≤ q → ¬ (i + j = q ∧ i + j < out.length) := fun q hq h => by clear hv; omega
    have f1 : (j : Int) < (b.length : Int) := by clear hv; omega
    have f2 : (0 : Int) ≤ (j : Int) := Int.natCast_nonneg j
    have f4 : (0 : Int) ≤ ((i + j : Nat) : Int) := Int.natCast_nonneg _
    have f5 : ((i + j : Nat) : Int) < (out.length : Int) := by clear hv; omega
    have e4 : wrap64 ((i : Int) + (j : Int)) = ((i + j : Nat) : Int) := by clear hv; rw [w64] <;> omega
    have e5 : wrap64 ((j : Int) + 1) = ((j + 1 : Nat) : Int) := by clear hv e4; rw [w64] <;> omega
    have hy := Dig_getD hb j
    obtain ⟨s0, s1, s2⟩ := mul_step V ((a.getD i 0).toNat * val (b.take j)) hdo (i := i) (j := j) e3 hx hy hc hv
    have hgo := Dig_getD hdo (i + j)
    have e6 : (a.getD i 0).toNat * val (b.take (j + 1)) = (a.getD i 0).toNat * val (b.take j) + 4294967296 ^ j * ((a.getD i 0).toNat * (b.getD j 0).toNat) := by
      rw [val_take_succ, Nat.mul_add, Nat.mul_left_comm]
    have h1 : Ev (fun k => astrolaberef01_Mul.l1 k a b (out.set (i + j) ((a.getD i 0 * b.getD j 0 + out.getD (i + j) 0 + c) % 4294967296)) i ((a.getD i 0 * b.getD j 0 + out.getD (i + j) 0 + c) / 4294967296) (j + 1 : Nat)) r := by
      refine ih (j + 1) _ _ e1 (by simpa using ho) (Dig_set hdo _ (mod_bd _)) (fun q hq => ?_) (div_bd s0 s1) ?_
      · rw [getD_set, if_neg (e7 q hq)]; exact hz q hq
      · rw [e6]; exact s2
    refine Ev.step (fun k => ?_) h1
    obtain ⟨m1, m2⟩ := mul_le hx hy
    have g1 := u64 (x := a.getD i 0 * b.getD j 0) m1 (lt_of_le_u64 m2)
    have g2 := u64 (x := a.getD i 0 * b.getD j 0 + out.getD (i + j) 0) (Int.add_nonneg m1 hgo.1) (lt_u64 m2 hgo.2)
    simp only [astrolaberef01_Mul.l1]
    rw [if_pos f1, if_pos f3, if_pos f6, if_pos f2, e4, if_pos f4, if_pos f5, e5, rd_nat, rd_nat, rd_nat, dig64 hx, dig64 hy, dig64 hgo, g1, g2, u64 (x := a.getD i 0 * b.getD j 0 + out.getD (i + j) 0 + c) s0 s1]
    rfl

theorem rMul_outer (a b : List Int) (ha : Dig a) (hb : Dig b) (hla : a.length ≤ 100000000) (hlb : b.length ≤ 100000000) :
    ∀ (d i : Nat) (out : List Int), d + i = a.length → out.length = a.length + b.length → Dig out → (∀ q, i + b.length ≤ q → out.getD q 0 = 0) → val out = val (a.take i) * val b →
      Ev (fun k => astrolaberef01_Mul.l0 k a b out i) (dg (val a * val b)) := by
  intro d
  induction d with
  | zero =>
    intro i out hd ho hdo hz hv
    have e : i = a.length := by omega
    subst e
    rw [take_all_val] at hv
    refine Ev.step (f := fun k => (astrolaberef01_Trim.f k out).bind fun t => some t) (fun k => ?_) (Ev.bind (f := fun _ t => some t) (Ev.eq (rTrim_sp hdo (by omega)) (by rw [hv])) (Ev.now _))
    simp only [astrolaberef01_Mul.l0]
    rw [if_neg (Int.lt_irrefl _)]
  | succ d ih =>
    intro i out hd ho hdo hz hv
    have hi : i < a.length := by clear hv; omega
    have e1 : d + (i + 1) = a.length := by clear hv; omega
    have h1 := rMul_inner a b ha hb i hi hla hlb (val out) (dg (val a * val b)) (fun out' ho' hdo' hz' hv' => by
      refine ih (i + 1) out' e1 ho' hdo' (fun q hq => hz' q (by clear hv hv'; omega)) ?_
      rw [hv', hv, val_take_succ, Nat.add_mul, Nat.mul_assoc]) b.length 0 out 0 (Nat.add_zero _) ho hdo hz (by decide) (by rw [take_zero_val, Nat.mul_zero, Nat.mul_zero, Int.toNat_zero, Nat.mul_zero])
    refine Ev.step (fun k => ?_) h1
    simp only [astrolaberef01_Mul.l0]
    rw [if_pos (Int.ofNat_lt.2 hi)]
    rfl

theorem rMul_sp {a b : List Int} (ha : Dig a) (hb : Dig b) (hn : a.length ≤ 100000000) (hm : b.length ≤ 100000000) :
    Ev (fun k => astrolaberef01_Mul.f k a b) (dg (val a * val b)) := by
  have h0 := rMul_outer a b ha hb hn hm a.length 0 (List.replicate (a.length + b.length) 0) (Nat.add_zero _) (by simp) (Dig_zeros _) (fun q _ => by simp [List.getD_eq_getElem?_getD, List.getElem?_replicate]; split <;> rfl) (by rw [val_zeros, take_zero_val, Nat.zero_mul])
  have hw : wrap64 ((a.length : Int) + (b.length : Int)) = ((a.length + b.length : Nat) : Int) := by rw [w64] <;> omega
  refine Ev.congr (fun k => ?_) h0
  unfold astrolaberef01_Mul.f
  rw [hw, if_pos (Int.natCast_nonneg _), if_pos (by omega)]
  rfl

theorem rCmp_loop (a b : List Int) (ha : Dig a) (hb : Dig b) : ∀ m : Nat, m ≤ 1000000000 → val a / 4294967296 ^ m = val b / 4294967296 ^ m → Ev (fun k => astrolaberef01_Cmp.l0 k a b ((m : Int) - 1)) (cmp (val a) (val b)) := by
  intro m
  induction m with
  | zero =>
    intro _ he
    rw [Nat.pow_zero, Nat.div_one, Nat.div_one] at he
    refine Ev.step (f := fun _ => some 0) (fun k => ?_) (Ev.eq (Ev.now _) (by unfold cmp; rw [if_neg (by omega), if_pos he]))
    simp only [astrolaberef01_Cmp.l0]
    rw [if_neg (by decide)]
  | succ m ih =>
    intro hm he
    have e0 : ((m + 1 : Nat) : Int) - 1 = (m : Int) := by clear he; omega
    have e1 : wrap64 ((m : Int) - 1) = (m : Int) - 1 := by clear he; rw [w64] <;> omega
    have f1 : (m : Int) ≥ 0 := Int.natCast_nonneg m
    rw [e0]
    have un : ∀ k, astrolaberef01_Cmp.l0 (k + 1) a b m = if ((val a / 4294967296 ^ m % 4294967296 : Nat) : Int) < ((val b / 4294967296 ^ m % 4294967296 : Nat) : Int) then some (-1) else if ((val a / 4294967296 ^ m % 4294967296 : Nat) : Int) > ((val b / 4294967296 ^ m % 4294967296 : Nat) : Int) then some 1 else astrolaberef01_Cmp.l0 k a b ((m : Int) - 1) := by
      intro k
      rw [← getD_val ha, ← getD_val hb]
      simp only [astrolaberef01_Cmp.l0]
      rw [if_pos f1, rat_eq ha, rat_eq hb, e1]
      rfl
    have ihn := ih (by clear he; omega)
    have c1 := @cmp_digit (val a) (val b) m he
    have c2 := @cmp_digit (val b) (val a) m he.symm
    have c3 := @same_digit (val a) (val b) m he
    clear he ih e0 e1 hm
    generalize val a / 4294967296 ^ m % 4294967296 = p at un c1 c2 c3
    generalize val b / 4294967296 ^ m % 4294967296 = q at un c1 c2 c3
    by_cases h1 : p < q
    · have h := c1 h1
      refine Ev.step (f := fun _ => some (-1)) (fun k => ?_) (Ev.eq (Ev.now _) (by unfold cmp; rw [if_pos h]))
      rw [un, if_pos (Int.ofNat_lt.2 h1)]
    · by_cases h2 : q < p
      · have h := c2 h2
        refine Ev.step (f := fun _ => some 1) (fun k => ?_) (Ev.eq (Ev.now _) (by unfold cmp; rw [if_neg (Nat.lt_asymm h), if_neg (Nat.ne_of_gt h)]))
        rw [un, if_neg (fun h => h1 (Int.ofNat_lt.1 h)), if_pos (Int.ofNat_lt.2 h2)]
      · refine Ev.step (fun k => ?_) (ihn (c3 (Nat.le_antisymm (Nat.le_of_not_lt h2) (Nat.le_of_not_lt h1))))
        rw [un, if_neg (fun h => h1 (Int.ofNat_lt.1 h)), if_neg (fun h => h2 (Int.ofNat_lt.1 h))]

theorem rCmp_sp {a b : List Int} (ha : Dig a) (hb : Dig b) (hn : a.length ≤ 100000000) (hm : b.length ≤ 100000000) :
    Ev (fun k => astrolaberef01_Cmp.f k a b) (cmp (val a) (val b)) := by
  obtain ⟨M, hM⟩ : ∃ M, M = max a.length b.length := ⟨_, rfl⟩
  have la : a.length ≤ M := by omega
  have lb : b.length ≤ M := by omega
  have h0 := rCmp_loop a b ha hb M (by omega) (by
    rw [Nat.div_eq_of_lt (Nat.lt_of_lt_of_le (val_lt ha) (pow_le la)), Nat.div_eq_of_lt (Nat.lt_of_lt_of_le (val_lt hb) (pow_le lb))])
  refine Ev.congr (fun k => ?_) h0
  unfold astrolaberef01_Cmp.f
  have : wrap64 (mx (a.length : Int) (b.length : Int) - 1) = (M : Int) - 1 := by rw [mx_nat, ← hM, w64] <;> omega
  rw [this]

theorem val_take_mod (l : List Int) (h : Dig l) (n : Nat) : val (l.take n) = val l % 4294967296 ^ n := by
  by_cases hn : n ≤ l.length
  · have h1 := val_split l n
    rw [Nat.min_eq_left hn] at h1
    have h2 := val_lt (Dig_take h n)
    rw [List.length_take, Nat.min_eq_left hn] at h2
    rw [h1, Nat.add_mul_mod_self_left, Nat.mod_eq_of_lt h2]
  · rw [take_ge_val l (by omega), Nat.mod_eq_of_lt (Nat.lt_of_lt_of_le (val_lt h) (pow_le (by omega)))]

theorem sub_alg {vo w x y a b c lo hi : Nat} (hv : vo + y = x + w * c) (hs : lo + b + c = a + 4294967296 * hi) : vo + w * lo + (y + w * b) = x + w * a + w * (4294967296 * hi) := by
  have h1 : w * lo + w * b + w * c = w * a + w * (4294967296 * hi) := by rw [← Nat.mul_add, ← Nat.mul_add, hs, Nat.mul_add]
  omega

theorem rSub_loop (a b : List Int) (ha : Dig a) (hb : Dig b) (hn : a.length ≤ 100000000) (hle : val b ≤ val a) :
    ∀ (d i : Nat) (out : List Int) (c : Nat), d + i = a.length → out.length = i → Dig out → c ≤ 1 → val out + val (b.take i) = val (a.take i) + 4294967296 ^ i * c →
      Ev (fun k => astrolaberef01_Sub.l0 k a b out c i) (dg (val a - val b), true) := by
  intro d
  induction d with
  | zero =>
    intro i out c hd ho hdo hc hv
    have e : i = a.length := by omega
    subst e
    have hbl : val (b.take a.length) = val b := by
      rw [val_take_mod b hb, Nat.mod_eq_of_lt (Nat.lt_of_le_of_lt hle (val_lt ha))]
    rw [take_all_val, hbl] at hv
    have hob := val_lt hdo
    rw [ho] at hob
    have hs : val a - val b = val out := by
      rcases (show c = 0 ∨ c = 1 by clear hv hob; omega) with rfl | rfl
      · rw [Nat.mul_zero, Nat.add_zero] at hv; clear hob; omega
      · exfalso
        rw [Nat.mul_one] at hv
        generalize 4294967296 ^ a.length = p at hv hob
        omega
    rw [hs]
    clear hv hob hs hbl
    refine Ev.step (f := fun k => (astrolaberef01_Trim.f k out).bind fun t => some (t, true)) (fun k => ?_) (Ev.bind (f := fun _ t => some (t, true)) (rTrim_sp hdo (by omega)) (Ev.now _))
    simp only [astrolaberef01_Sub.l0]
    rw [if_neg (Int.lt_irrefl _)]
  | succ d ih =>
    intro i out c hd ho hdo hc hv
    have hx := Dig_getD ha i
    have hy := Dig_getD hb i
    have f1 : (i : Int) < (a.length : Int) := by clear hv; omega
    have f2 : out.length < 35184372088832 := by clear hv; omega
    have f3 : d + (i + 1) = a.length := by clear hv; omega
    have t5 : wrap64 ((i : Int) + 1) = (i + 1 : Nat) := by clear hv; rw [w64] <;> omega
    obtain ⟨x, hxe⟩ := Int.eq_ofNat_of_zero_le hx.1
    obtain ⟨y, hye⟩ := Int.eq_ofNat_of_zero_le hy.1
    rw [hxe] at hx
    rw [hye] at hy
    obtain ⟨s, hs⟩ : ∃ s : Nat, (s : Int) = x + 4294967296 - y - c := ⟨((x : Int) + 4294967296 - y - c).toNat, by clear hv; omega⟩
    have hsb : s < 8589934592 := by clear hv; omega
    have hm : ((s : Int) % 4294967296).toNat = s % 4294967296 := by clear hv; omega
    have g1 : IntKind.u64.wrap ((x : Int) + 4294967296) = (x : Int) + 4294967296 := by clear hv; exact u64 (by omega) (by omega)
    have g2 : IntKind.u64.wrap ((x : Int) + 4294967296 - (y : Int)) = (x : Int) + 4294967296 - (y : Int) := by clear hv; exact u64 (by omega) (by omega)
    have g3 : IntKind.u64.wrap ((x : Int) + 4294967296 - (y : Int) - (c : Int)) = (s : Int) := by rw [← hs]; clear hv; exact u64 (by omega) (by omega)
    have g4 : IntKind.u64.wrap (1 - (s : Int) / 4294967296) = ((1 - s / 4294967296 : Nat) : Int) := by
      clear hv; rw [u64] <;> omega
    have hstep : s % 4294967296 + y + c = x + 4294967296 * (1 - s / 4294967296) := by clear hv; omega
    have key : Ev (fun k => astrolaberef01_Sub.l0 k a b (out ++ [(s : Int) % 4294967296]) ((1 - s / 4294967296 : Nat) : Int) (i + 1 : Nat)) (dg (val a - val b), true) := by
      refine ih (i + 1) _ _ f3 (by rw [List.length_append, ho]; rfl) (Dig_snoc hdo (mod_bd _)) (Nat.sub_le _ _) ?_
      rw [val_snoc, hm, ho, val_take_succ, val_take_succ, hxe, hye, Int.toNat_natCast, Int.toNat_natCast, Nat.pow_succ, Nat.mul_assoc (4294967296 ^ i)]
      exact sub_alg hv hstep
    refine Ev.step (fun k => ?_) key
    clear key ih hv hstep
    simp only [astrolaberef01_Sub.l0]
    rw [if_pos f1, rat_eq ha, rat_eq hb]
    simp only [Option.bind_some]
    rw [if_pos f2, t5, hxe, hye, g1, g2, g3, g4]

theorem rSub_sp {a b : List Int} (ha : Dig a) (hb : Dig b) (hn : a.length ≤ 100000000) (hm : b.length ≤ 100000000) :
    Ev (fun k => astrolaberef01_Sub.f k a b) (if val b ≤ val a then (dg (val a - val b), true) else ([], false)) := by
  refine Ev.bind (f := fun k t => _) (rCmp_sp ha hb hn hm) ?_
  by_cases h : val b ≤ val a
  · rw [if_pos h]
    refine Ev.ifn ?_ (rSub_loop a b ha hb hn h a.length 0 [] 0 rfl rfl Dig_nil (by decide) (by rw [take_zero_val, take_zero_val]; rfl))
    unfold cmp
    rw [if_neg (by omega)]
    split <;> decide
  · rw [if_neg h]
    refine Ev.ifp ?_ (Ev.now _)
    unfold cmp
    rw [if_pos (by omega)]
    decide

theorem rTrim_n {a : List Int} {x n : Nat} (ha : Nm a x n) (hn : n ≤ 100000000) : Ev (fun k => astrolaberef01_Trim.f k a) (dg x) :=
  Ev.eq (rTrim_sp ha.dig (Nat.le_trans ha.len (Nat.le_trans hn (by decide)))) (by rw [ha.val])

theorem rMul_n {a b : List Int} {x y n m : Nat} (ha : Nm a x n) (hb : Nm b y m) (hn : n ≤ 100000000) (hm : m ≤ 100000000) : Ev (fun k => astrolaberef01_Mul.f k a b) (dg (x * y)) :=
  Ev.eq (rMul_sp ha.dig hb.dig (Nat.le_trans ha.len hn) (Nat.le_trans hb.len hm)) (by rw [ha.val, hb.val])

theorem rSub_n {a b : List Int} {x y n m : Nat} (ha : Nm a x n) (hb : Nm b y m) (hn : n ≤ 100000000) (hm : m ≤ 100000000) : Ev (fun k => astrolaberef01_Sub.f k a b) (if y ≤ x then (dg (x - y), true) else ([], false)) :=
  Ev.eq (rSub_sp ha.dig hb.dig (Nat.le_trans ha.len hn) (Nat.le_trans hb.len hm)) (by rw [ha.val, hb.val])

theorem rBits_n {a : List Int} {x n : Nat} (ha : Nm a x n) (hn : n ≤ 10000000) : Ev (fun k => astrolaberef01_Bits.f k a) (bl x : Int) :=
  Ev.eq (rBits_sp ha.dig (Nat.le_trans ha.len hn)) (by rw [ha.val])

theorem rShl_n {a : List Int} {x n s : Nat} (ha : Nm a x n) (hn : n ≤ 100000000) (hs : s ≤ 100000) : Ev (fun k => astrolaberef01_Shl.f k a s) (dg (x * 2 ^ s), true) :=
  Ev.eq (rShl_sp ha.dig (Nat.le_trans ha.len hn)) (by rw [if_pos ⟨Int.natCast_nonneg s, by omega⟩, ha.val, Int.toNat_natCast])

theorem rShr_n {a : List Int} {x n s : Nat} (ha : Nm a x n) (hn : n ≤ 100000000) (hs : s ≤ 100000) : Ev (fun k => astrolaberef01_Shr.f k a s) (dg (x / 2 ^ s)) :=
  Ev.eq (rShr_sp ha.dig (Nat.le_trans ha.len hn) (by omega)) (by rw [if_neg (Int.not_lt.2 (Int.natCast_nonneg s)), ha.val, Int.toNat_natCast])

theorem rFrom_n {g : Nat} (h : g < 18446744073709551616) : Ev (fun k => astrolaberef01_From.f k (g : Int)) (dg g) :=
  Ev.eq (rFrom_sp (by omega) (by omega)) (by rw [Int.toNat_natCast])

theorem rshort_loop {a : List Int} (ha : Dig a) {d : Nat} (hd0 : 0 < d) (hd : d < 4294967296) (hn : a.length ≤ 100000000) :
    ∀ (m : Nat) (q : List Int), m ≤ a.length → q.length = a.length → (∀ j, m ≤ j → j < a.length → q.getD j 0 = ((val a / d / 4294967296 ^ j % 4294967296 : Nat) : Int)) →
      Ev (fun k => astrolaberef03_short.l0 k a (d : Int) q ((val a / 4294967296 ^ m % d : Nat) : Int) ((m : Int) - 1)) (dg (val a / d), dg (val a % d)) := by
  intro m
  induction m with
  | zero =>
    intro q _ hq hdig
    have hdq : Dig q := Dig_of (fun j hj => by rw [hdig j (Nat.zero_le _) (by omega)]; exact nat_mod_bd _)
    have hv : val q = val a / d := by
      rw [val_of_digits (val a / d) q (fun j hj => hdig j (Nat.zero_le _) (by omega)), hq]
      exact Nat.mod_eq_of_lt (Nat.lt_of_le_of_lt (Nat.div_le_self _ _) (val_lt ha))
    have hr : val a % d < d := Nat.mod_lt _ hd0
    rw [Nat.pow_zero, Nat.div_one]
    have hT : Ev (fun k => astrolaberef01_Trim.f k q) (dg (val a / d)) := Ev.eq (rTrim_sp hdq (by omega)) (by rw [hv])
    clear hdig hv
    generalize val a % d = r at hr
    have hF : Ev (fun k => astrolaberef01_From.f k (r : Int)) (dg r) := rFrom_n (by omega)
    refine Ev.step (f := ?F) (fun k => ?_) ?_
    rotate_left
    · simp only [astrolaberef03_short.l0]
      rw [if_neg (by decide)]
    exact Ev.bind (f := fun k t => _) hT (Ev.bind (f := fun k t => some (dg (val a / d), t)) hF (Ev.now _))
  | succ m ih =>
    intro q hm hq hdig
    have hw : ((m + 1 : Nat) : Int) - 1 = (m : Int) := by omega
    have hw2 : wrap64 ((m : Int) - 1) = (m : Int) - 1 := w64 (by omega) (by omega)
    have i2 : (m : Int) < (a.length : Int) := by omega
    have i3 : (m : Int) < (q.length : Int) := by omega
    have i5 : ¬ (d : Int) = 0 := by omega
    have hx : val a / 4294967296 ^ (m + 1) % d < d := Nat.mod_lt _ hd0
    have hl : val a / 4294967296 ^ m % 4294967296 < 4294967296 := Nat.mod_lt _ (by decide)
    obtain ⟨s1, s2⟩ := short_digit (X := val a / 4294967296 ^ (m + 1)) hd0 hl
    have hor := or64m (Nat.lt_trans hx hd) hl
    have hql := div_lt_base hx hl
    have key := ih (q.set m ((val a / d / 4294967296 ^ m % 4294967296 : Nat) : Int)) (by omega) (by rw [List.length_set]; exact hq) (fun j hj hj2 => by
      rw [getD_set]
      by_cases h : m = j
      · subst h; rw [if_pos ⟨rfl, by omega⟩]
      · rw [if_neg (fun h2 => h h2.1)]; exact hdig j (by omega) hj2)
    have hdd : val a / d / 4294967296 ^ m % 4294967296 = (val a / 4294967296 ^ (m + 1) % d * 4294967296 + val a / 4294967296 ^ m % 4294967296) / d := by
      rw [s1, ← div_step, Nat.div_div_eq_div_mul, Nat.div_div_eq_div_mul, Nat.mul_comm]
    have hrr : val a / 4294967296 ^ m % d = (val a / 4294967296 ^ (m + 1) % d * 4294967296 + val a / 4294967296 ^ m % 4294967296) % d := by
      rw [s2, ← div_step]
    rw [hdd, hrr] at key
    refine Ev.step (fun k => ?_) key
    clear key ih hdig s1 s2 hdd hrr
    simp only [astrolaberef03_short.l0]
    rw [hw, if_pos (show (m : Int) ≥ 0 from Int.natCast_nonneg _), if_pos (Int.natCast_nonneg _), if_pos i2, if_neg i5, if_pos i3, rd_nat, getD_val ha, hor, tdivn, tmodn, hw2, Int.toNat_natCast]
    generalize (val a / 4294967296 ^ (m + 1) % d * 4294967296 + val a / 4294967296 ^ m % 4294967296) / d = z at hql ⊢
    rw [u64 (by omega) (by omega), same_mod hql]

theorem rshort_sp {a : List Int} (ha : Dig a) {d : Nat} (hd0 : 0 < d) (hd : d < 4294967296) (hn : a.length ≤ 100000000) :
    Ev (fun k => astrolaberef03_short.f k a (d : Int)) (dg (val a / d), dg (val a % d)) := by
  have h0 := rshort_loop ha hd0 hd hn a.length (List.replicate a.length 0) (Nat.le_refl _) List.length_replicate (fun j h1 h2 => absurd h2 (Nat.not_lt.2 h1))
  rw [Nat.div_eq_of_lt (val_lt ha), Nat.zero_mod] at h0
  refine Ev.congr (fun k => ?_) h0
  unfold astrolaberef03_short.f
  rw [if_pos (Int.natCast_nonneg _), Int.toNat_natCast, if_pos (by omega), w64 (by omega) (by omega)]
  rfl

theorem mn_min (a : Nat) : mn (a : Int) 4294967295 = ((min a 4294967295 : Nat) : Int) := by
  unfold mn
  split <;> omega

theorem orA {u v : Nat} (hu : u < 4294967296) (hv : v < 4294967296) : Go.bits .or .u64 (IntKind.u64.wrap (u : Int)) (IntKind.u64.wrap (IntKind.u64.wrap (v : Int) * 4294967296)) = ((v * 4294967296 + u : Nat) : Int) := by
  rw [u64 (x := (u : Int)) (by omega) (by omega), u64 (x := (v : Int)) (by omega) (by omega), or64' (by omega) (by omega)]
  omega

/-- The guess is not below the quotient's digit. -/
theorem rguess {R y m : Nat} (hyl : (dg y).length = m + 2) (hR : R < y * 4294967296) (hm : m ≤ 100000000) : ∃ g : Nat, astrolaberef03_guess.f (dg R) (dg y) = some (g : Int) ∧ R / y ≤ g ∧ g < 4294967296 := by
  have hp := pow_pos' (m + 1)
  obtain ⟨_, hd, hd0⟩ := bl_dg (v := y) (n := m + 1) hyl
  have hyg : 4294967296 ^ (m + 1) ≤ y := le_of_dg_length (by rw [hyl]; exact Nat.le_refl _)
  have hyu : y < 4294967296 ^ (m + 2) := lt_of_dg_length (Nat.le_of_eq hyl)
  have hy0 : 0 < y := Nat.lt_of_lt_of_le hp hyg
  have hq1 : R / y < 4294967296 := Nat.div_lt_of_lt_mul hR
  have hqb : R / y * (y / 4294967296 ^ (m + 1)) ≤ R / 4294967296 ^ (m + 1) := qbb_le hp
  have hqt : R / y ≤ R / 4294967296 ^ (m + 1) / (y / 4294967296 ^ (m + 1)) := (Nat.le_div_iff_mul_le (Nat.pos_of_ne_zero hd0)).2 hqb
  have hw1 : wrap64 (((m + 2 : Nat) : Int) - 1) = ((m + 1 : Nat) : Int) := by clear hp hd hd0 hyg hyu hq1 hqb hqt hR; rw [w64 (by omega) (by omega)]; omega
  have hdy : rd (dg y) ((m + 1 : Nat) : Int) = ((y / 4294967296 ^ (m + 1) : Nat) : Int) := by rw [rd_nat, dg_getD, Nat.mod_eq_of_lt hd]
  have hdu : IntKind.u64.wrap ((y / 4294967296 ^ (m + 1) : Nat) : Int) = ((y / 4294967296 ^ (m + 1) : Nat) : Int) := by
    generalize y / 4294967296 ^ (m + 1) = z at hd
    rw [u64 (by omega) (by omega)]
  have hdn : ¬ ((y / 4294967296 ^ (m + 1) : Nat) : Int) = 0 := by
    generalize y / 4294967296 ^ (m + 1) = z at hd0
    omega
  have i1 : ((m + 1 : Nat) : Int) < ((m + 2 : Nat) : Int) := by clear hp hd hd0 hyg hyu hq1 hqb hqt hR hdn; omega
  by_cases h1 : (dg R).length < m + 2
  · refine ⟨0, ?_, ?_, by decide⟩
    · unfold astrolaberef03_guess.f
      rw [hyl, if_pos (Int.ofNat_lt.2 h1)]
      rfl
    · have : R < y := lt_of_len (by rw [hyl]; exact h1)
      rw [Nat.div_eq_of_lt this]
      exact Nat.le_refl _
  · have hg : ∀ top : Nat, top = R / 4294967296 ^ (m + 1) → top < 18446744073709551616 → ∃ g : Nat, mn (IntKind.u64.wrap ((top / (y / 4294967296 ^ (m + 1)) : Nat) : Int)) 4294967295 = (g : Int) ∧ R / y ≤ g ∧ g < 4294967296 := by
      intro top ht htl
      rw [← ht] at hqt
      have hle : top / (y / 4294967296 ^ (m + 1)) ≤ top := Nat.div_le_self _ _
      generalize top / (y / 4294967296 ^ (m + 1)) = z at hqt hle ⊢
      generalize R / y = q at hqt hq1 ⊢
      clear hqb hR
      refine ⟨min z 4294967295, ?_, ?_, ?_⟩
      · rw [u64 (by omega) (by omega), mn_min]
      · clear hp hd hd0 hyg hyu hdn; omega
      · clear hp hd hd0 hyg hyu hdn; omega
    have hRl : R < 4294967296 ^ (m + 3) := by
      rw [Nat.pow_succ]
      exact Nat.lt_of_lt_of_le hR (Nat.mul_le_mul_right _ (Nat.le_of_lt hyu))
    have hRlen : (dg R).length ≤ m + 3 := dg_length_le hRl
    have hrd0 : rd (dg R) ((m + 1 : Nat) : Int) = ((R / 4294967296 ^ (m + 1) % 4294967296 : Nat) : Int) := by rw [rd_nat, dg_getD]
    have i0 : ¬ ((dg R).length : Int) < ((m + 2 : Nat) : Int) := fun h => h1 (Int.ofNat_lt.1 h)
    have i2 : ((m + 1 : Nat) : Int) < ((dg R).length : Int) := Int.ofNat_lt.2 (Nat.lt_of_lt_of_le (Nat.lt_succ_self _) (Nat.le_of_not_lt h1))
    have hx0 : R / 4294967296 ^ (m + 1) % 4294967296 < 4294967296 := Nat.mod_lt _ (by decide)
    by_cases h2 : (dg R).length > m + 2
    · have hx1 : R / 4294967296 ^ (m + 2) < 4294967296 := Nat.div_lt_of_lt_mul (by rw [← Nat.pow_succ]; exact hRl)
      have hrd1 : rd (dg R) ((m + 2 : Nat) : Int) = ((R / 4294967296 ^ (m + 2) : Nat) : Int) := by rw [rd_nat, dg_getD, Nat.mod_eq_of_lt hx1]
      have htop := div_step R (m + 1)
      obtain ⟨g, e1, e2, e3⟩ := hg (R / 4294967296 ^ (m + 1)) rfl (by
        rw [htop]
        generalize R / 4294967296 ^ (m + 1) % 4294967296 = u at hx0
        generalize R / 4294967296 ^ (m + 1 + 1) = v at hx1
        clear hp hd hd0 hyg hyu hdn hqb hqt hq1 hR hRl
        omega)
      refine ⟨g, ?_, e2, e3⟩
      have hor : Go.bits .or .u64 (IntKind.u64.wrap ((R / 4294967296 ^ (m + 1) % 4294967296 : Nat) : Int)) (IntKind.u64.wrap (IntKind.u64.wrap ((R / 4294967296 ^ (m + 2) : Nat) : Int) * 4294967296)) = ((R / 4294967296 ^ (m + 1) : Nat) : Int) := by
        rw [orA hx0 hx1]
        exact congrArg (fun z : Nat => (z : Int)) htop.symm
      unfold astrolaberef03_guess.f
      rw [hyl, if_neg i0, hw1, if_pos (Int.natCast_nonneg _), if_pos i2, if_pos (Int.ofNat_lt.2 h2), if_pos (Int.natCast_nonneg _), if_pos (Int.ofNat_lt.2 h2), if_pos i1, hdy, hdu, if_neg hdn, hrd0, hrd1, hor, tdivn, e1]
    · have hRl2 : (dg R).length ≤ m + 2 := Nat.le_of_not_lt h2
      have hx1 : R / 4294967296 ^ (m + 1) < 4294967296 := Nat.div_lt_of_lt_mul (by rw [← Nat.pow_succ]; exact lt_of_dg_length hRl2)
      obtain ⟨g, e1, e2, e3⟩ := hg (R / 4294967296 ^ (m + 1)) rfl (Nat.lt_trans hx1 (by decide))
      refine ⟨g, ?_, e2, e3⟩
      have hu : IntKind.u64.wrap ((R / 4294967296 ^ (m + 1) : Nat) : Int) = ((R / 4294967296 ^ (m + 1) : Nat) : Int) := by
        generalize R / 4294967296 ^ (m + 1) = u at hx1
        rw [u64 (by omega) (by omega)]
      rw [Nat.mod_eq_of_lt hx1] at hrd0
      unfold astrolaberef03_guess.f
      rw [hyl, if_neg i0, hw1, if_pos (Int.natCast_nonneg _), if_pos i2, if_neg (fun h => h2 (Int.ofNat_lt.1 h)), if_pos i1, hdy, hdu, if_neg hdn, hrd0, hu, tdivn, e1]

/-- What is left, and whether something is. -/
def resid (R y g : Nat) : List Int × Bool := if y * g ≤ R then (dg (R - y * g), true) else ([], false)

theorem resid_mul {R y g n : Nat} (hR : (dg R).length ≤ n) (hy : (dg y).length ≤ n) (hn : n ≤ 1000000) (hg : g < 4294967296) {x : List Int × List Int × Bool} {f : Nat → List Int × Bool → Option (List Int × List Int × Bool)}
    (h : Ev (fun k => f k (resid R y g)) x) : Ev (fun k => (astrolaberef01_From.f k (g : Int)).bind fun t => (astrolaberef01_Mul.f k (dg y) t).bind fun t2 => (astrolaberef01_Sub.f k (dg R) t2).bind fun bt => f k bt) x := by
  have NR : Nm (dg R) R n := ⟨Dig_dg R, val_dg R, hR⟩
  have Ny : Nm (dg y) y n := ⟨Dig_dg y, val_dg y, hy⟩
  have Ng : Nm (dg g) g 1 := Nm.of hg
  exact Ev.bind (f := fun k t => _) (rFrom_n (by omega)) (Ev.bind (f := fun k t => _) (rMul_n Ny Ng (by omega) (by decide)) (Ev.bind (f := fun k t => f k t) (rSub_n NR (Nm.mul Ny Ng) (by omega) (by omega)) h))

theorem rdiv_l1 {R y n : Nat} {sh i : Int} {nn Q : List Int} {x : List Int × List Int × Bool} (hR : (dg R).length ≤ n) (hy : (dg y).length ≤ n) (hn : n ≤ 1000000) (hy0 : 0 < y) (hi0 : 0 ≤ i) (hi : i < (Q.length : Int))
    (hnext : Ev (fun k => astrolaberef03_DivMod.l0 k (dg y) sh nn (Q.set i.toNat ((R / y % 4294967296 : Nat) : Int)) (dg (R % y)) (wrap64 (i - 1))) x) :
    ∀ (t g : Nat), g = R / y + t → g < 4294967296 → Ev (fun k => astrolaberef03_DivMod.l1 k (dg y) sh nn Q (dg R) i (g : Int) (resid R y g).1 (resid R y g).2) x := by
  intro t
  induction t with
  | zero =>
    intro g hg hgl
    have hle : y * g ≤ R := by rw [hg]; exact Nat.mul_div_le R y
    have hrest : R - y * g = R % y := by rw [hg, Nat.mul_comm]; exact div_rest R y
    refine Ev.step (fun k => ?_) hnext
    unfold resid
    rw [if_pos hle, hrest]
    simp only [astrolaberef03_DivMod.l1]
    rw [if_pos trivial, if_pos hi0, if_pos hi, ← Nat.add_zero (R / y), ← hg]
    rfl
  | succ t ih =>
    intro g hg hgl
    obtain ⟨g', rfl⟩ : ∃ g', g = g' + 1 := ⟨g - 1, by generalize R / y = z at hg; omega⟩
    have hlt : ¬ y * (g' + 1) ≤ R := by
      apply Nat.not_le.2
      have h1 : R < y * (R / y + 1) := Nat.lt_mul_div_succ R hy0
      exact Nat.lt_of_lt_of_le h1 (Nat.mul_le_mul_left _ (by generalize R / y = z at hg; omega))
    have hw : IntKind.u64.wrap (((g' + 1 : Nat) : Int) - 1) = (g' : Int) := by
      rw [u64 (by omega) (by omega)]; omega
    have hg' : g' < 4294967296 := Nat.lt_of_succ_lt hgl
    have hI := ih g' (by generalize R / y = z at hg ⊢; omega) hg'
    have hM := resid_mul hR hy hn hg' (f := fun k bt => astrolaberef03_DivMod.l1 k (dg y) sh nn Q (dg R) i (g' : Int) bt.1 bt.2) hI
    refine Ev.step (fun k => ?_) hM
    unfold resid
    rw [if_neg hlt]
    simp only [astrolaberef03_DivMod.l1]
    rw [if_neg (by simp), hw]

theorem rdiv_l0 {A y m0 sh : Nat} (hyl : (dg y).length = m0 + 2) (hm0 : m0 + 3 ≤ 1000000) (hLA : (dg A).length ≤ 1000000) (hsh : sh ≤ 1000) :
    ∀ (m : Nat) (Q : List Int), m ≤ (dg A).length → Q.length = (dg A).length → (∀ j, m ≤ j → j < (dg A).length → Q.getD j 0 = ((A / y / 4294967296 ^ j % 4294967296 : Nat) : Int)) →
      Ev (fun k => astrolaberef03_DivMod.l0 k (dg y) (sh : Int) (dg A) Q (dg (A / 4294967296 ^ m % y)) ((m : Int) - 1)) (dg (A / y), dg (A % y / 2 ^ sh), true) := by
  have hyg : 4294967296 ^ (m0 + 1) ≤ y := le_of_dg_length (by rw [hyl]; exact Nat.le_refl _)
  have hyu : y < 4294967296 ^ (m0 + 2) := lt_of_dg_length (Nat.le_of_eq hyl)
  have hy0 : 0 < y := Nat.lt_of_lt_of_le (pow_pos' _) hyg
  have hAl : A < 4294967296 ^ (dg A).length := lt_of_dg_length (Nat.le_refl _)
  generalize hL : (dg A).length = L at hLA hAl
  intro m
  induction m with
  | zero =>
    intro Q _ hq hdig
    have hdq : Dig Q := Dig_of (fun j hj => by rw [hdig j (Nat.zero_le _) (by rw [← hq]; exact hj)]; exact nat_mod_bd _)
    have hv : val Q = A / y := by
      rw [val_of_digits (A / y) Q (fun j hj => hdig j (Nat.zero_le _) (by rw [← hq]; exact hj)), hq]
      exact Nat.mod_eq_of_lt (Nat.lt_of_le_of_lt (Nat.div_le_self _ _) hAl)
    rw [Nat.pow_zero, Nat.div_one]
    have hT : Ev (fun k => astrolaberef01_Trim.f k Q) (dg (A / y)) := Ev.eq (rTrim_sp hdq (by rw [hq]; exact Nat.le_trans hLA (by decide))) (by rw [hv])
    have NR : Nm (dg (A % y)) (A % y) (m0 + 2) := Nm.of (Nat.lt_trans (Nat.mod_lt _ hy0) hyu)
    have hS := rShr_n NR (Nat.le_trans (Nat.le_succ _) (Nat.le_trans hm0 (by decide))) (Nat.le_trans hsh (show 1000 ≤ 100000 by decide))
    clear hdig hv
    refine Ev.step (f := ?F) (fun k => ?_) ?_
    rotate_left
    · simp only [astrolaberef03_DivMod.l0]
      rw [if_neg (by decide)]
    exact Ev.bind (f := fun k t => _) hT (Ev.bind (f := fun k t => some (dg (A / y), t, true)) hS (Ev.now _))
  | succ m ih =>
    intro Q hm hq hdig
    have hmL : m < L := hm
    have hw : ((m + 1 : Nat) : Int) - 1 = (m : Int) := by omega
    have hw2 : wrap64 ((m : Int) - 1) = (m : Int) - 1 := w64 (by omega) (by clear hyg hyu hAl hdig; omega)
    have hR0 : A / 4294967296 ^ (m + 1) % y < y := Nat.mod_lt _ hy0
    have hl : A / 4294967296 ^ m % 4294967296 < 4294967296 := Nat.mod_lt _ (by decide)
    obtain ⟨s1, s2⟩ := short_digit (X := A / 4294967296 ^ (m + 1)) hy0 hl
    rw [← div_step] at s1 s2
    have hRb : A / 4294967296 ^ (m + 1) % y * 4294967296 + A / 4294967296 ^ m % 4294967296 < y * 4294967296 := by
      have := Nat.mul_le_mul_right 4294967296 (show A / 4294967296 ^ (m + 1) % y + 1 ≤ y from hR0)
      generalize A / 4294967296 ^ (m + 1) % y = u at this ⊢
      generalize A / 4294967296 ^ m % 4294967296 = v at hl ⊢
      clear hyg hyu hAl hdig s1 s2
      omega
    have key := ih (Q.set m ((A / y / 4294967296 ^ m % 4294967296 : Nat) : Int)) (Nat.le_of_lt hmL) (by rw [List.length_set]; exact hq) (fun j hj hj2 => by
      rw [getD_set]
      by_cases h : m = j
      · subst h; rw [if_pos ⟨rfl, by rw [hq]; exact hj2⟩]
      · rw [if_neg (fun h2 => h h2.1)]; exact hdig j (Nat.lt_of_le_of_ne hj h) hj2)
    have hdd : A / y / 4294967296 ^ m = A / 4294967296 ^ m / y := by rw [Nat.div_div_eq_div_mul, Nat.div_div_eq_div_mul, Nat.mul_comm]
    rw [hdd, ← s1, ← s2] at key
    have hdx : rd (dg A) (m : Int) = ((A / 4294967296 ^ m % 4294967296 : Nat) : Int) := by rw [rd_nat, dg_getD]
    have hcons : val (((A / 4294967296 ^ m % 4294967296 : Nat) : Int) :: dg (A / 4294967296 ^ (m + 1) % y)) = A / 4294967296 ^ (m + 1) % y * 4294967296 + A / 4294967296 ^ m % 4294967296 := by
      rw [val_cons, val_dg, Int.toNat_natCast, Nat.mul_comm, Nat.add_comm]
    have hcd : Dig (((A / 4294967296 ^ m % 4294967296 : Nat) : Int) :: dg (A / 4294967296 ^ (m + 1) % y)) := Dig_cons.2 ⟨nat_mod_bd _, Dig_dg _⟩
    have hrl : (dg (A / 4294967296 ^ (m + 1) % y)).length ≤ m0 + 2 := dg_length_le (Nat.lt_trans hR0 hyu)
    have hi0 : (0 : Int) ≤ (m : Int) := Int.natCast_nonneg _
    have hiL : (m : Int) < ((dg A).length : Int) := by rw [hL]; exact Int.ofNat_lt.2 hmL
    have hiQ : (m : Int) < (Q.length : Int) := by rw [hq]; exact Int.ofNat_lt.2 hmL
    clear hdig hdd s1 s2 ih
    generalize A / 4294967296 ^ (m + 1) % y = R0 at *
    generalize A / 4294967296 ^ m % 4294967296 = x0 at *
    have hql : (R0 * 4294967296 + x0) / y < 4294967296 := Nat.div_lt_of_lt_mul hRb
    have hRlen : (dg (R0 * 4294967296 + x0)).length ≤ m0 + 3 := by
      apply dg_length_le
      rw [Nat.pow_succ]
      exact Nat.lt_of_lt_of_le hRb (Nat.mul_le_mul_right _ (Nat.le_of_lt hyu))
    have hT : Ev (fun k => astrolaberef01_Trim.f k ((x0 : Int) :: dg R0)) (dg (R0 * 4294967296 + x0)) := Ev.eq (rTrim_sp hcd (by rw [List.length_cons]; exact Nat.le_trans (Nat.succ_le_succ hrl) (Nat.le_trans hm0 (by decide)))) (by rw [hcons])
    obtain ⟨g, hg, hg1, hg2⟩ := rguess (R := R0 * 4294967296 + x0) hyl hRb (Nat.le_trans (Nat.le_add_right _ 3) (Nat.le_trans hm0 (by decide)))
    have hyle : (dg y).length ≤ m0 + 3 := by rw [hyl]; exact Nat.le_succ _
    have hln : ([(x0 : Int)] : List Int).length + (dg R0).length < 35184372088832 := by
      clear hyg hyu hAl hRb hql hRlen key hg hg1
      simp only [List.length_cons, List.length_nil]
      omega
    generalize R0 * 4294967296 + x0 = R at *
    have hL1 := rdiv_l1 (sh := (sh : Int)) (i := (m : Int)) (nn := dg A) (Q := Q) hRlen hyle hm0 hy0 hi0 hiQ (x := (dg (A / y), dg (A % y / 2 ^ sh), true)) (by
      rw [Int.toNat_natCast, hw2, Nat.mod_eq_of_lt hql]; exact key) (g - R / y) g (by
        generalize R / y = z at hg1
        clear hyg hyu hAl hRb hql hRlen key hg
        omega) hg2
    have hM := resid_mul hRlen hyle hm0 hg2 (f := fun k bt => astrolaberef03_DivMod.l1 k (dg y) (sh : Int) (dg A) Q (dg R) (m : Int) (g : Int) bt.1 bt.2) hL1
    refine Ev.step (f := ?G) (fun k => ?_) ?_
    rotate_left
    · simp only [astrolaberef03_DivMod.l0]
      rw [hw, if_pos hi0, if_pos hiL, hdx]
    refine Ev.ifp hi0 (Ev.bind (f := fun k t => _) (Ev.now ([(x0 : Int)] : List Int)) (Ev.ifp hln (Ev.bind (f := fun k t => _) hT ?_)))
    rw [hg]
    exact Ev.bind (f := fun k t => _) (Ev.now (g : Int)) hM

theorem norm_len {y m0 : Nat} (hyl : (dg y).length = m0 + 2) : ∃ s : Nat, s ≤ 32 ∧ bl y + s = 32 * (m0 + 2) ∧ (dg (y * 2 ^ s)).length = m0 + 2 := by
  obtain ⟨hb, hd, hd0⟩ := bl_dg (v := y) (n := m0 + 1) hyl
  have hyg : 4294967296 ^ (m0 + 1) ≤ y := le_of_dg_length (by rw [hyl]; exact Nat.le_refl _)
  obtain ⟨n1, n2⟩ := norm_one hd0 hd
  obtain ⟨s1, s2⟩ := norm_num (pow_pos' (m0 + 1)) n1 n2
  have hbl : bl (y / 4294967296 ^ (m0 + 1)) ≤ 32 := bl_le.2 hd
  refine ⟨32 - bl (y / 4294967296 ^ (m0 + 1)), Nat.sub_le _ _, ?_, ?_⟩
  · rw [hb]
    generalize bl (y / 4294967296 ^ (m0 + 1)) = z at hbl
    clear hd hd0 hyg n1 n2 s1 s2 hb
    omega
  · exact dg_len_eq (n := m0 + 1) (Nat.le_trans hyg (Nat.le_mul_of_pos_right _ (Nat.two_pow_pos _))) (by rw [Nat.pow_succ 4294967296 (m0 + 1)]; exact s2)

theorem rDivMod_n {a b : List Int} {x y n m : Nat} (ha : Nm a x n) (hb : Nm b y m) (hn : n ≤ 1000) (hm : m ≤ 1000) (hy : y ≠ 0) : Ev (fun k => astrolaberef03_DivMod.f k a b) (dg (x / y), dg (x % y), true) := by
  have ly : (dg y).length ≤ 1000 := Nat.le_trans hb.dg.len hm
  have hl0 : ¬ ((dg y).length : Int) = 0 := fun h => hy (dg_length_zero.1 (by omega))
  refine Ev.bind (f := fun k t => _) (rTrim_n hb (Nat.le_trans hm (by decide))) (Ev.ifn hl0 ?_)
  by_cases h1 : (dg y).length = 1
  · have hyl : y < 4294967296 := lt_of_dg_length (n := y) (k := 1) (Nat.le_of_eq h1)
    have hrd : rd (dg y) 0 = (y : Int) := by
      have := rd_nat (dg y) 0
      rw [dg_one hy hyl] at this ⊢
      exact this
    have hS := rshort_sp ha.dig (d := y) (by omega) hyl (Nat.le_trans ha.len (Nat.le_trans hn (by decide)))
    rw [ha.val] at hS
    refine Ev.ifp (by omega) (Ev.ifp (by omega) ?_)
    rw [hrd, u64 (by omega) (by omega)]
    exact Ev.bind (f := fun k t => _) hS (Ev.now _)
  · obtain ⟨m0, hm0⟩ : ∃ m0, (dg y).length = m0 + 2 := ⟨(dg y).length - 2, by omega⟩
    obtain ⟨s, hs1, hs2, hs3⟩ := norm_len hm0
    have hm1 : m0 + 2 ≤ 1000 := by rw [← hm0]; exact ly
    have hp2 := Nat.two_pow_pos s
    have Ny : Nm (dg y) y (m0 + 2) := ⟨Dig_dg y, val_dg y, Nat.le_of_eq hm0⟩
    have hB := rBits_n Ny (Nat.le_trans hm1 (by decide))
    have ws : wrap64 (wrap64 (32 * (((dg y).length : Nat) : Int)) - (bl y : Int)) = (s : Int) := by
      rw [hm0, w64 (x := 32 * ((m0 + 2 : Nat) : Int)) (by omega) (by omega), w64 (by omega) (by omega)]
      omega
    have hS1 := rShl_n Ny (Nat.le_trans hm1 (by decide)) (Nat.le_trans hs1 (show 32 ≤ 100000 by decide))
    have hS2 := rShl_n ha (Nat.le_trans hn (by decide)) (Nat.le_trans hs1 (show 32 ≤ 100000 by decide))
    have NA : Nm (dg (x * 2 ^ s)) (x * 2 ^ s) 2000 := (Nm.shl ha).mono (by omega)
    have hLA : (dg (x * 2 ^ s)).length ≤ 2000 := NA.len
    have hAl : x * 2 ^ s < 4294967296 ^ (dg (x * 2 ^ s)).length := lt_of_dg_length (Nat.le_refl _)
    have hdiv : x * 2 ^ s / (y * 2 ^ s) = x / y := Nat.mul_div_mul_right x y hp2
    have hmod : x * 2 ^ s % (y * 2 ^ s) / 2 ^ s = x % y := by rw [Nat.mul_mod_mul_right, Nat.mul_div_cancel _ hp2]
    have hL := rdiv_l0 (A := x * 2 ^ s) hs3 (by omega) (Nat.le_trans hLA (by decide)) (Nat.le_trans hs1 (show 32 ≤ 1000 by decide)) (dg (x * 2 ^ s)).length (List.replicate (dg (x * 2 ^ s)).length 0) (Nat.le_refl _) List.length_replicate (fun j h1 h2 => absurd h2 (Nat.not_lt.2 h1))
    rw [Nat.div_eq_of_lt hAl, Nat.zero_mod, dg_zero, hdiv, hmod] at hL
    have wl : wrap64 (((dg (x * 2 ^ s)).length : Int) - 1) = ((dg (x * 2 ^ s)).length : Int) - 1 := w64 (by omega) (by omega)
    clear hAl hdiv hmod
    refine Ev.ifn (by omega) (Ev.bind (f := fun k t => _) hB ?_)
    rw [ws]
    refine Ev.bind (f := fun k t => _) hS1 (Ev.bind (f := fun k t => _) hS2 (Ev.ifp (Int.natCast_nonneg _) (Ev.ifp ?_ ?_)))
    · exact Nat.le_trans hLA (by decide)
    · rw [show ((dg (x * 2 ^ s), true) : List Int × Bool).1.length = (dg (x * 2 ^ s)).length from rfl, wl, Int.toNat_natCast]
      exact hL

theorem rDivMod_0 {a b : List Int} {m : Nat} (hb : Nm b 0 m) (hm : m ≤ 1000) : Ev (fun k => astrolaberef03_DivMod.f k a b) ([], [], false) :=
  Ev.bind (f := fun k t => _) (rTrim_n hb (Nat.le_trans hm (by decide))) (Ev.ifp (by rw [dg_zero]; rfl) (Ev.now _))

theorem rGcd_l0 {n : Nat} (hn : n ≤ 1000) : ∀ (y x : Nat), x < 4294967296 ^ n → y < 4294967296 ^ n → Ev (fun k => astrolaberef03_Gcd.l0 k (dg x) (dg y)) (dg (Nat.gcd x y)) := by
  intro y
  induction y using Nat.strongRecOn with
  | _ y ih =>
  intro x hx hy
  by_cases h : y = 0
  · subst h
    refine Ev.step (f := fun _ => some (dg x)) (fun k => ?_) (Ev.eq (Ev.now _) (by rw [Nat.gcd_zero_right]))
    simp only [astrolaberef03_Gcd.l0]
    rw [dg_zero, if_neg (by decide)]
  · have hl : ((dg y).length : Int) > 0 := by
      have : (dg y).length ≠ 0 := fun h1 => h (dg_length_zero.1 h1)
      clear hx hy
      omega
    have hlt : x % y < y := Nat.mod_lt _ (Nat.pos_of_ne_zero h)
    have hI := ih (x % y) hlt y hy (Nat.lt_trans hlt hy)
    rw [show Nat.gcd y (x % y) = Nat.gcd x y by rw [Nat.gcd_comm x y, Nat.gcd_rec y x, Nat.gcd_comm]] at hI
    have hD := rDivMod_n (Nm.of hx) (Nm.of hy) hn hn h
    clear hx hy hlt
    refine Ev.step (f := ?F) (fun k => ?_) ?_
    rotate_left
    · simp only [astrolaberef03_Gcd.l0]
      rw [if_pos hl]
    exact Ev.bind (f := fun k t => _) hD hI

theorem rGcd_n {a b : List Int} {x y n : Nat} (ha : Nm a x n) (hb : Nm b y n) (hn : n ≤ 1000) : Ev (fun k => astrolaberef03_Gcd.f k a b) (dg (Nat.gcd x y)) :=
  Ev.bind (f := fun k t => _) (rTrim_n ha (Nat.le_trans hn (by decide))) (Ev.bind (f := fun k t => _) (rTrim_n hb (Nat.le_trans hn (by decide))) (rGcd_l0 hn y x ha.lt hb.lt))

end Go.Proofs.Ytohkjfdcmiiehaa.Sp
