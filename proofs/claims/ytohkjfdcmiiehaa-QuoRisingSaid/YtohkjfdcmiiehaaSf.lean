/- Numbers and their lists of digits, with what they are worth and how long they are; the calls of chapter 1 in these words. -/
import Derived.Test.YtohkjfdcmiiehaaP1
import Derived.Test.YtohkjfdcmiiehaaP2
import Derived.Test.YtohkjfdcmiiehaaP3
import Derived.Test.YtohkjfdcmiiehaaP4
import Derived.Test.YtohkjfdcmiiehaaSe
namespace Go.Proofs.Ytohkjfdcmiiehaa.Sp
open Go.RowKit Go.Proofs.Ytohkjfdcmiiehaa.P Go.Proofs.Ytohkjfdcmiiehaa.Num Go.Proofs.YtohkjfdcmiiehaaW.PrintWords Go.Proofs.YtohkjfdcmiiehaaW.PrintLast Go.Proofs.YtohkjfdcmiiehaaW.PrintMore

theorem Ev.ifp {α : Type} {c : Prop} [Decidable c] {f g : Nat → Option α} {r : α} (h : c) (k : Ev f r) : Ev (fun n => if c then f n else g n) r := Ev.congr (fun _ => if_pos h) k
theorem Ev.ifn {α : Type} {c : Prop} [Decidable c] {f g : Nat → Option α} {r : α} (h : ¬ c) (k : Ev g r) : Ev (fun n => if c then f n else g n) r := Ev.congr (fun _ => if_neg h) k

/-- A list of digits that is worth x, of at most n digits. -/
structure Nm (l : List Int) (x n : Nat) : Prop where
  dig : Dig l
  val : val l = x
  len : l.length ≤ n

theorem Nm.lt {l : List Int} {x n : Nat} (h : Nm l x n) : x < 4294967296 ^ n := by
  have := val_lt h.dig
  rw [h.val] at this
  exact Nat.lt_of_lt_of_le this (Nat.pow_le_pow_right (by decide) h.len)

theorem Nm.of {x n : Nat} (h : x < 4294967296 ^ n) : Nm (dg x) x n := ⟨Dig_dg x, val_dg x, dg_length_le h⟩
theorem Nm.dg {l : List Int} {x n : Nat} (h : Nm l x n) : Nm (dg x) x n := Nm.of h.lt
theorem Nm.mono {l : List Int} {x n m : Nat} (h : Nm l x n) (hm : n ≤ m) : Nm l x m := ⟨h.dig, h.val, Nat.le_trans h.len hm⟩
theorem Nm.le {x y n : Nat} {l : List Int} (h : Nm l x n) (hy : y ≤ x) : Nm (Num.dg y) y n := Nm.of (Nat.lt_of_le_of_lt hy h.lt)

theorem pow_le {n m : Nat} (h : n ≤ m) : 4294967296 ^ n ≤ 4294967296 ^ m := Nat.pow_le_pow_right (by decide) h

theorem add_lt {x y n m k : Nat} (hx : x < 4294967296 ^ n) (hy : y < 4294967296 ^ m) (hn : n + 1 ≤ k) (hm : m + 1 ≤ k) : x + y < 4294967296 ^ k := by
  obtain ⟨j, rfl⟩ : ∃ j, k = j + 1 := ⟨k - 1, by omega⟩
  have h1 := Nat.lt_of_lt_of_le hx (pow_le (show n ≤ j by omega))
  have h2 := Nat.lt_of_lt_of_le hy (pow_le (show m ≤ j by omega))
  rw [Nat.pow_succ]
  generalize 4294967296 ^ j = p at h1 h2
  clear hx hy
  omega

theorem Nm.add {a b : List Int} {x y n m k : Nat} (ha : Nm a x n) (hb : Nm b y m) (hn : n + 1 ≤ k) (hm : m + 1 ≤ k) : Nm (Num.dg (x + y)) (x + y) k := Nm.of (add_lt ha.lt hb.lt hn hm)

theorem mul_lt {x y n m : Nat} (hx : x < 4294967296 ^ n) (hy : y < 4294967296 ^ m) : x * y < 4294967296 ^ (n + m) := by
  rw [Nat.pow_add]
  exact Nat.mul_lt_mul'' hx hy

theorem Nm.mul {a b : List Int} {x y n m : Nat} (ha : Nm a x n) (hb : Nm b y m) : Nm (Num.dg (x * y)) (x * y) (n + m) := Nm.of (mul_lt ha.lt hb.lt)

theorem Nm.shl {a : List Int} {x n s : Nat} (ha : Nm a x n) : Nm (Num.dg (x * 2 ^ s)) (x * 2 ^ s) (n + (s / 32 + 1)) := by
  refine Nm.of ?_
  rw [Nat.pow_add]
  refine Nat.mul_lt_mul'' ha.lt ?_
  rw [pow32]
  exact Nat.pow_lt_pow_right (by decide) (by omega)

theorem Trim_n {a : List Int} {x n : Nat} (ha : Nm a x n) (hn : n ≤ 100000000) : Ev (fun k => nat_Trim.f k a) (dg x) :=
  Ev.eq (Trim_sp (Nat.le_trans ha.len (Nat.le_trans hn (by decide))) ha.dig) (by rw [ha.val])
theorem Add_n {a b : List Int} {x y n m : Nat} (ha : Nm a x n) (hb : Nm b y m) (hn : n ≤ 100000000) (hm : m ≤ 100000000) : Ev (fun k => nat_Add.f k a b) (dg (x + y)) :=
  Ev.eq (Add_sp ha.dig hb.dig (Nat.le_trans ha.len hn) (Nat.le_trans hb.len hm)) (by rw [ha.val, hb.val])
theorem Mul_n {a b : List Int} {x y n m : Nat} (ha : Nm a x n) (hb : Nm b y m) (hn : n ≤ 100000000) (hm : m ≤ 100000000) : Ev (fun k => nat_Mul.f k a b) (dg (x * y)) :=
  Ev.eq (Mul_sp ha.dig hb.dig (Nat.le_trans ha.len hn) (Nat.le_trans hb.len hm)) (by rw [ha.val, hb.val])
theorem Cmp_n {a b : List Int} {x y n m : Nat} (ha : Nm a x n) (hb : Nm b y m) (hn : n ≤ 100000000) (hm : m ≤ 100000000) : Ev (fun k => nat_Cmp.f k a b) (cmp x y) :=
  Ev.eq (Cmp_sp ha.dig hb.dig (Nat.le_trans ha.len hn) (Nat.le_trans hb.len hm)) (by rw [ha.val, hb.val])
theorem Sub_n {a b : List Int} {x y n m : Nat} (ha : Nm a x n) (hb : Nm b y m) (hn : n ≤ 100000000) (hm : m ≤ 100000000) : Ev (fun k => nat_Sub.f k a b) (if y ≤ x then (dg (x - y), true) else ([], false)) :=
  Ev.eq (Sub_sp ha.dig hb.dig (Nat.le_trans ha.len hn) (Nat.le_trans hb.len hm)) (by rw [ha.val, hb.val])
theorem Sub_y {a b : List Int} {x y n m : Nat} (ha : Nm a x n) (hb : Nm b y m) (hn : n ≤ 100000000) (hm : m ≤ 100000000) (h : y ≤ x) : Ev (fun k => nat_Sub.f k a b) (dg (x - y), true) :=
  Ev.eq (Sub_n ha hb hn hm) (if_pos h)
theorem Bits_n {a : List Int} {x n : Nat} (ha : Nm a x n) (hn : n ≤ 10000000) : Ev (fun k => nat_Bits.f k a) (bl x : Int) :=
  Ev.eq (Bits_sp (Nat.le_trans ha.len hn) ha.dig) (by rw [ha.val])
theorem Shl_n {a : List Int} {x n s : Nat} (ha : Nm a x n) (hn : n ≤ 100000000) (hs : s ≤ 100000) : Ev (fun k => nat_Shl.f k a s) (dg (x * 2 ^ s), true) :=
  Ev.eq (Shl_sp ha.dig (Nat.le_trans ha.len hn)) (by rw [if_pos ⟨Int.natCast_nonneg s, by omega⟩, ha.val, Int.toNat_natCast])
theorem Shr_n {a : List Int} {x n s : Nat} (ha : Nm a x n) (hn : n ≤ 100000000) (hs : s ≤ 100000) : Ev (fun k => nat_Shr.f k a s) (dg (x / 2 ^ s)) :=
  Ev.eq (Shr_sp ha.dig (Nat.le_trans ha.len hn) (by omega)) (by rw [if_neg (Int.not_lt.2 (Int.natCast_nonneg s)), ha.val, Int.toNat_natCast])
/-- An argument, cut to its first N digits. -/
theorem cut_ok (l : List Int) (N : Int) (h : 0 ≤ N) : 0 ≤ mn (l.length : Int) N ∧ mn (l.length : Int) N ≤ (l.length : Int) ∧ mn (l.length : Int) N ≤ N := by
  unfold mn
  split <;> omega

theorem Dig_wf {l : List Int} (h : ∀ x ∈ l, (Lit.int .u32 x).wf = true) : Dig l := by
  intro x hx
  have := h x hx
  simp only [Lit.wf, IntKind.min, IntKind.max, IntKind.signed, IntKind.bits, Bool.and_eq_true] at this
  simp at this
  omega

theorem cut_nm {l : List Int} (h : ∀ x ∈ l, (Lit.int .u32 x).wf = true) (N : Int) (n : Nat) (hN : N = n) : Nm (l.take (mn (l.length : Int) N).toNat) (val (l.take (mn (l.length : Int) N).toNat)) n :=
  ⟨Dig_take (Dig_wf h) _, rfl, by
    have := (cut_ok l N (by omega)).2.2
    rw [List.length_take]; omega⟩

theorem nm1 {d : Int} (h : 0 ≤ d ∧ d < 4294967296) : Nm [d] d.toNat 1 := ⟨by intro x hx; simp at hx; omega, by rw [val_cons, val_nil, Nat.mul_zero, Nat.add_zero], by simp⟩
theorem nm2 {d e : Int} (h : 0 ≤ d ∧ d < 4294967296) (h' : 0 ≤ e ∧ e < 4294967296) : Nm [d, e] (d.toNat + 4294967296 * e.toNat) 2 := ⟨by intro x hx; simp at hx; omega, by rw [val_two], by simp⟩
theorem nm3 {d e f : Int} (h : 0 ≤ d ∧ d < 4294967296) (h' : 0 ≤ e ∧ e < 4294967296) (h'' : 0 ≤ f ∧ f < 4294967296) : Nm [d, e, f] (d.toNat + 4294967296 * (e.toNat + 4294967296 * f.toNat)) 3 := ⟨by intro x hx; simp at hx; omega, by simp [val], by simp⟩

theorem dg2 {x : Nat} {d e : Nat} (h : x = d + 4294967296 * e) (hd : d < 4294967296) (he : e < 4294967296) (h0 : e ≠ 0) : dg x = [(d : Int), (e : Int)] := by
  rw [dg_pos (by omega), show x % 4294967296 = d by omega, show x / 4294967296 = e by omega, dg_one h0 he]

end Go.Proofs.Ytohkjfdcmiiehaa.Sp
