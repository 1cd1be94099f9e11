/- The plain law of chapter 1's moves down, and of single bits. -/
import Derived.Test.YtohkjfdcmiiehaaP1
import Derived.Test.YtohkjfdcmiiehaaP2
import Derived.Test.YtohkjfdcmiiehaaSd
namespace Go.Proofs.Ytohkjfdcmiiehaa.Sp
open Go.RowKit Go.Proofs.Ytohkjfdcmiiehaa.P Go.Proofs.Ytohkjfdcmiiehaa.Num Go.Proofs.YtohkjfdcmiiehaaW.PrintWords Go.Proofs.YtohkjfdcmiiehaaW.PrintLast Go.Proofs.YtohkjfdcmiiehaaW.PrintMore

theorem pow32 (q : Nat) : (4294967296 : Nat) ^ q = 2 ^ (32 * q) := by rw [Nat.pow_mul]

/-- A list whose digits are a number's is that number, up to its length. -/
theorem val_of_digits (z : Nat) : ∀ (l : List Int), (∀ m, m < l.length → l.getD m 0 = ((z / 4294967296 ^ m % 4294967296 : Nat) : Int)) → val l = z % 4294967296 ^ l.length := by
  intro l
  induction l generalizing z with
  | nil => intro _; rw [List.length_nil, Nat.pow_zero, Nat.mod_one]; rfl
  | cons d l ih =>
    intro h
    have h0 := h 0 (by simp)
    have h1 := ih (z / 4294967296) (fun m hm => by
      have := h (m + 1) (by simpa using hm)
      rw [List.getD_cons_succ, Nat.pow_succ, Nat.mul_comm, ← Nat.div_div_eq_div_mul] at this
      exact this)
    rw [List.getD_cons_zero, Nat.pow_zero, Nat.div_one] at h0
    rw [val_cons, h1, h0, Int.toNat_natCast, List.length_cons, Nat.pow_succ, Nat.mul_comm (4294967296 ^ l.length), Nat.mod_mul]

theorem shr_digit {w i r : Nat} (hr : r < 32) : (w / 4294967296 ^ i % 4294967296 + 4294967296 * (w / 4294967296 ^ (i + 1) % 4294967296)) / 2 ^ r % 4294967296 = w / 2 ^ r / 4294967296 ^ i % 4294967296 := by
  have e0 : w / 4294967296 ^ (i + 1) = w / 4294967296 ^ i / 4294967296 := by rw [Nat.pow_succ, Nat.div_div_eq_div_mul]
  have e1 : w / 2 ^ r / 4294967296 ^ i = w / 4294967296 ^ i / 2 ^ r := by rw [Nat.div_div_eq_div_mul, Nat.div_div_eq_div_mul, Nat.mul_comm]
  rw [e0, e1]
  generalize w / 4294967296 ^ i = X
  have e2 : X % 4294967296 + 4294967296 * (X / 4294967296 % 4294967296) = X % (4294967296 * 4294967296) := by rw [Nat.mod_mul]
  rw [e2]
  have e3 : (4294967296 : Nat) = 2 ^ r * 2 ^ (32 - r) := by rw [← Nat.pow_add, show r + (32 - r) = 32 by omega]
  have e4 : ∀ Y, Y / 2 ^ r % 4294967296 = Y % (2 ^ r * 4294967296) / 2 ^ r := fun Y => by rw [Nat.mod_mul_right_div_self]
  rw [e4, e4 X, Nat.mod_mod_of_dvd]
  exact Nat.mul_dvd_mul_right ⟨2 ^ (32 - r), e3⟩ 4294967296

theorem shr64 {x : Int} {r : Nat} (hr : r < 32) : shr .u64 x (r : Int) = x / 2 ^ r := by
  unfold shr
  have hm : min ((r : Int).toNat) IntKind.u64.bits = r := by
    have : IntKind.u64.bits = 64 := rfl
    rw [this]; omega
  rw [hm]

theorem or64' {x y : Int} (hx : 0 ≤ x ∧ x < 4294967296) (hy : 0 ≤ y ∧ y < 4294967296) : Go.bits .or .u64 y (IntKind.u64.wrap (x * 4294967296)) = y + x * 4294967296 := by
  rw [u64 (x := x * 4294967296) (by omega) (by omega)]
  obtain ⟨a, rfl⟩ := Int.eq_ofNat_of_zero_le hx.1
  obtain ⟨b, rfl⟩ := Int.eq_ofNat_of_zero_le hy.1
  have ha : a < 4294967296 := by omega
  have hb : b < 4294967296 := by omega
  have e : (a : Int) * 4294967296 = ((a * 4294967296 : Nat) : Int) := by rw [Int.natCast_mul]; rfl
  have h := (bits_nat .u64 64 (by decide) (fun n h0 h1 => u64 h0 (by omega)) b (a * 4294967296) (by omega) (by omega)).2
  rw [e, h, or_low (r := 32) hb (Nat.mul_mod_left a 4294967296)]
  rw [Int.natCast_add]

theorem cast_shr (p q r : Nat) : ((p : Int) + (q : Int) * 4294967296) / 2 ^ r % 4294967296 = (((p + 4294967296 * q) / 2 ^ r % 4294967296 : Nat) : Int) := by
  have e : (p : Int) + (q : Int) * 4294967296 = ((p + 4294967296 * q : Nat) : Int) := by omega
  have e2 : (2 : Int) ^ r = ((2 ^ r : Nat) : Int) := by rw [Int.natCast_pow]; rfl
  rw [e, e2, ← Int.natCast_ediv]
  generalize (p + 4294967296 * q) / 2 ^ r = z
  omega

theorem Shr_loop (y : List Int) (hy : Dig y) (hn : y.length ≤ 100000000) (n r : Nat) (hr : n % 32 = r) (_hn2 : n ≤ 9223372036854775807) :
    ∀ (d i : Nat) (out : List Int), d + i = y.length → out.length = y.length → Dig out → (∀ m, m < i → out.getD m 0 = ((val y / 2 ^ r / 4294967296 ^ m % 4294967296 : Nat) : Int)) →
      Ev (fun k => nat_Shr.l0 k y n out y.length i) (dg (val y / 2 ^ r)) := by
  have hr32 : r < 32 := by omega
  intro d
  induction d with
  | zero =>
    intro i out hd ho hdo hv
    have e : i = y.length := by omega
    subst e
    have hl : val y / 2 ^ r < 4294967296 ^ y.length := Nat.lt_of_le_of_lt (Nat.div_le_self _ _) (val_lt hy)
    have h1 := val_of_digits (val y / 2 ^ r) out (fun m hm => hv m (by rw [← ho]; exact hm))
    rw [ho, Nat.mod_eq_of_lt hl] at h1
    rw [← h1]
    refine Ev.step (f := fun k => (nat_trim.f k out).bind fun t => some t) (fun k => ?_) (Ev.bind (f := fun _ t => some t) (trim_sp (by clear hv h1 hl; omega) hdo) (Ev.now _))
    simp only [nat_Shr.l0]
    rw [if_neg (Int.lt_irrefl _)]
  | succ d ih =>
    intro i out hd ho hdo hv
    have hi : i < y.length := by clear hv; omega
    have hx := Dig_getD hy i
    have hx1 := Dig_getD hy (i + 1)
    have key : ∀ v : Int, v = y.getD i 0 + y.getD (i + 1) 0 * 4294967296 → Ev (fun k => nat_Shr.l0 k y n (out.set i (v / 2 ^ r % 4294967296)) y.length (i + 1 : Nat)) (dg (val y / 2 ^ r)) := by
      intro v hve
      have hvd : v / 2 ^ r % 4294967296 = ((val y / 2 ^ r / 4294967296 ^ i % 4294967296 : Nat) : Int) := by
        rw [← shr_digit hr32, hve, getD_val hy i, getD_val hy (i + 1)]
        exact cast_shr _ _ _
      refine ih (i + 1) _ (by clear hv; omega) (by simpa using ho) (Dig_set hdo _ (mod_bd _)) (fun m hm => ?_)
      rw [getD_set]
      by_cases hmi : i = m
      · subst hmi
        rw [if_pos ⟨rfl, by rw [ho]; exact hi⟩]; exact hvd
      · rw [if_neg (fun h => hmi h.1)]; exact hv m (by clear hv; omega)
    clear ih hv
    have t2 : Int.tmod (n : Int) 32 = (r : Nat) := by
      have : Int.tmod (n : Int) 32 = ((n % 32 : Nat) : Int) := rfl
      rw [this]; omega
    have t5 : wrap64 ((i : Int) + 1) = (i + 1 : Nat) := by clear t2 key; rw [w64] <;> omega
    have f1 : (i : Int) < (y.length : Int) := by clear t2 key; omega
    have f2 : (0 : Int) ≤ (i : Int) := Int.natCast_nonneg i
    have f3 : (0 : Int) ≤ (r : Int) := Int.natCast_nonneg r
    have f4 : (0 : Int) ≤ ((i + 1 : Nat) : Int) := Int.natCast_nonneg _
    have f5 : (i : Int) < (out.length : Int) := by clear t2 key; omega
    by_cases h1 : i + 1 < y.length
    · refine Ev.step (fun k => ?_) (key _ rfl)
      simp only [nat_Shr.l0]
      rw [if_pos f1, if_pos f2, if_pos f1, t5, if_pos (Int.ofNat_lt.2 h1), if_pos f4, t2, if_pos f3, if_pos f5, rd_nat, rd_nat, dig64 hx, dig64 hx1, or64' hx1 hx, shr64 hr32]
      rfl
    · have hz : y.getD (i + 1) 0 = 0 := getD_ge y (by clear t2 key; omega)
      refine Ev.step (fun k => ?_) (key (y.getD i 0) (by rw [hz, Int.zero_mul, Int.add_zero]))
      simp only [nat_Shr.l0]
      rw [if_pos f1, if_pos f2, if_pos f1, t5, if_neg (fun h => h1 (Int.ofNat_lt.1 h)), t2, if_pos f3, if_pos f5, rd_nat, dig64 hx, shr64 hr32]
      rfl

theorem val_drop (l : List Int) (h : Dig l) (q : Nat) : val (l.drop q) = val l / 4294967296 ^ q := by
  by_cases hq : q ≤ l.length
  · have h1 := val_split l q
    rw [Nat.min_eq_left hq] at h1
    have h2 := val_lt (Dig_take h q)
    rw [List.length_take, Nat.min_eq_left hq] at h2
    rw [h1, Nat.add_mul_div_left _ _ (pow_pos' q), Nat.div_eq_of_lt h2, Nat.zero_add]
  · rw [List.drop_eq_nil_of_le (by omega), Nat.div_eq_of_lt]
    · rfl
    · exact Nat.lt_of_lt_of_le (val_lt h) (Nat.pow_le_pow_right (by omega) (by omega))

theorem div_two_pow (v n : Nat) : v / 2 ^ n = v / 4294967296 ^ (n / 32) / 2 ^ (n % 32) := by
  rw [pow32, Nat.div_div_eq_div_mul, ← Nat.pow_add, Nat.div_add_mod]

theorem Shr_sp {l : List Int} {n : Int} (h : Dig l) (hl : l.length ≤ 100000000) (hn : n ≤ 9223372036854775807) :
    Ev (fun k => nat_Shr.f k l n) (if n < 0 then dg (val l) else dg (val l / 2 ^ n.toNat)) := by
  refine Ev.bind (f := fun k t => _) (trim_sp (by omega) h) ?_
  have la := dg_len h
  by_cases h0 : n < 0
  · rw [if_pos h0]
    refine Ev.congr (f := fun _ => some (dg (val l))) (fun k => ?_) (Ev.now _)
    rw [if_pos h0]
    unfold slices_Clone_uint32_uint32.f
    rw [if_pos (by omega)]
    rfl
  rw [if_neg h0]
  obtain ⟨m, rfl⟩ := Int.eq_ofNat_of_zero_le (show 0 ≤ n by omega)
  rw [Int.toNat_natCast, div_two_pow]
  have t1 : wrap64 (Int.tdiv (m : Int) 32) = (m / 32 : Nat) := by
    have : Int.tdiv (m : Int) 32 = ((m / 32 : Nat) : Int) := rfl
    rw [this, w64] <;> omega
  by_cases h1 : (dg (val l)).length ≤ m / 32
  · have hz : val l / 4294967296 ^ (m / 32) = 0 := Nat.div_eq_of_lt (lt_of_dg_length h1)
    rw [hz, Nat.zero_div, dg_zero]
    refine Ev.congr (f := fun _ => some []) (fun k => ?_) (Ev.now _)
    rw [if_neg h0, t1, if_pos (by omega)]
  · have hd : Dig ((dg (val l)).drop (m / 32)) := Dig_drop (Dig_dg _) _
    have hlen : ((dg (val l)).drop (m / 32)).length ≤ 100000000 := by rw [List.length_drop]; omega
    have h2 := Shr_loop ((dg (val l)).drop (m / 32)) hd hlen m (m % 32) rfl (by omega) ((dg (val l)).drop (m / 32)).length 0 (List.replicate ((dg (val l)).drop (m / 32)).length 0) (by omega) (by simp) (Dig_zeros _) (fun m hm => absurd hm (by omega))
    rw [val_drop _ (Dig_dg _), val_dg] at h2
    refine Ev.congr (fun k => ?_) h2
    rw [if_neg h0, t1, if_neg (by omega), if_pos (Int.natCast_nonneg _), if_pos (by omega)]
    simp only [Option.bind_some]
    rw [Int.toNat_natCast, if_pos (Int.natCast_nonneg _), if_pos (by rw [Int.toNat_natCast]; omega)]
    rfl

theorem shl32 {r : Nat} (hr : r < 32) : shl .u32 1 (r : Int) = ((2 ^ r : Nat) : Int) := by
  unfold shl
  have hm : min ((r : Int).toNat) IntKind.u32.bits = r := by
    have : IntKind.u32.bits = 32 := rfl
    rw [this]; omega
  rw [hm, Int.one_mul, u32m]
  have h2 : (2 : Nat) ^ r < 2 ^ 32 := Nat.pow_lt_pow_right (by omega) hr
  have e : (2 : Int) ^ r = ((2 ^ r : Nat) : Int) := by rw [Int.natCast_pow]; rfl
  have h3 : (2 : Nat) ^ r < 4294967296 := h2
  rw [e]
  generalize (2 : Nat) ^ r = p at h3 ⊢
  omega

theorem and_pow (d r : Nat) : (d &&& 2 ^ r != 0) = d.testBit r := by
  have e : d &&& 2 ^ r = if d.testBit r then 2 ^ r else 0 := by
    apply Nat.eq_of_testBit_eq
    intro i
    rw [Nat.testBit_and, Nat.testBit_two_pow]
    by_cases hi : r = i
    · subst hi
      cases hb : d.testBit r <;> simp
    · cases hb : d.testBit r <;> simp [hi, Nat.testBit_two_pow]
  rw [e]
  have := Nat.two_pow_pos r
  cases hb : d.testBit r
  · simp
  · simp

theorem testBit_digit (v n : Nat) : (v / 4294967296 ^ (n / 32) % 4294967296).testBit (n % 32) = v.testBit n := by
  have e : (4294967296 : Nat) = 2 ^ 32 := by decide
  rw [pow32, show v / 2 ^ (32 * (n / 32)) % 4294967296 = v / 2 ^ (32 * (n / 32)) % 2 ^ 32 from rfl, Nat.testBit_mod_two_pow, Nat.testBit_div_two_pow, Nat.mod_add_div, decide_eq_true (Nat.mod_lt n (by decide)), Bool.true_and]

end Go.Proofs.Ytohkjfdcmiiehaa.Sp
