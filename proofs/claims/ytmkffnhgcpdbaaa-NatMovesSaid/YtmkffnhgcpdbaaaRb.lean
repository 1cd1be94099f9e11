/- The plain law of the document's own answer to chapter 1: its moves. -/
import Derived.Test.YtmkffnhgcpdbaaaP5
import Derived.Test.YtmkffnhgcpdbaaaRa
namespace Go.Proofs.Ytmkffnhgcpdbaaa.Sp
open Go.RowKit Go.Proofs.Ytmkffnhgcpdbaaa.P Go.Proofs.Ytmkffnhgcpdbaaa.Num Go.Proofs.YtmkffnhgcpdbaaaW.PrintWords Go.Proofs.YtmkffnhgcpdbaaaW.PrintLast Go.Proofs.YtmkffnhgcpdbaaaW.PrintMore

theorem or64c {x c r : Nat} (hx : x < 4294967296) (hr : r < 32) (hc : c < 2 ^ r) : Go.bits .or .u64 ((x * 2 ^ r : Nat) : Int) (c : Int) = ((x * 2 ^ r + c : Nat) : Int) := by
  have h2 : 2 ^ r ≤ 2147483648 := Nat.pow_le_pow_right (n := 2) (by omega) (show r ≤ 31 by omega)
  have h3 := Nat.mul_le_mul (show x ≤ 4294967295 by omega) h2
  have hm : x * 2 ^ r % 2 ^ r = 0 := Nat.mul_mod_left x (2 ^ r)
  have e := (bits_nat .u64 64 (by decide) (fun n h0 h1 => u64 h0 (by omega)) (x * 2 ^ r) c (by omega) (by omega)).2
  rw [e, Nat.or_comm, or_low hc hm, Nat.add_comm]

theorem Dig_snoc {l : List Int} {v : Int} (h : Dig l) (hv : 0 ≤ v ∧ v < 4294967296) : Dig (l ++ [v]) := Dig_append.2 ⟨h, Dig_cons.2 ⟨hv, Dig_nil⟩⟩
theorem val_snoc (l : List Int) (v : Int) : val (l ++ [v]) = val l + 4294967296 ^ l.length * v.toNat := by
  rw [val_append, val_cons, val_nil, Nat.mul_zero, Nat.add_zero]

theorem rshl_alg {vo V b w p x c P lo hi : Nat} (hv : vo + b * w * c = V * p * b) (hP : P = x * p + c) (hl : lo + 4294967296 * hi = P) : vo + b * w * lo + b * w * (4294967296 * hi) = (V + w * x) * p * b := by
  have : b * w * lo + b * w * (4294967296 * hi) = b * w * (x * p) + b * w * c := by rw [← Nat.mul_add, ← Nat.mul_add, hl, hP]
  rw [Nat.add_assoc, this, Nat.add_comm (b * w * (x * p)), ← Nat.add_assoc, hv]
  exact shl_alg _ _ _ _ _

theorem rShl_loop (a : List Int) (ha : Dig a) (hn : a.length ≤ 100000000) (n q r : Nat) (hqr : n = 32 * q + r) (hr : r < 32) (hn2 : n ≤ 100000) :
    ∀ (d i : Nat) (out : List Int) (c : Nat), d + i = a.length → out.length = q + i → Dig out → c < 2 ^ r → val out + 4294967296 ^ q * 4294967296 ^ i * c = val (a.take i) * 2 ^ r * 4294967296 ^ q →
      Ev (fun k => astrolaberef01_Shl.l0 k a n out c i) (dg (val a * 2 ^ n), true) := by
  have h31 : 2 ^ r ≤ 2147483648 := Nat.pow_le_pow_right (n := 2) (by omega) (show r ≤ 31 by omega)
  intro d
  induction d with
  | zero =>
    intro i out c hd ho hdo hc hv
    have e : i = a.length := by omega
    subst e
    have hc2 : (c : Int) % 4294967296 = (c : Int) := by clear hv; omega
    have hv2 : val (out ++ [(c : Int) % 4294967296]) = val a * 2 ^ n := by
      rw [val_snoc, hc2, Int.toNat_natCast, ho, Nat.pow_add, hv, take_all_val, hqr, Nat.pow_add, Nat.pow_mul]
      rw [Nat.mul_assoc, Nat.mul_comm (2 ^ r)]
    have hdl : Dig (out ++ [(c : Int) % 4294967296]) := Dig_snoc hdo (mod_bd _)
    rw [← hv2]
    have hlen : (out ++ [(c : Int) % 4294967296]).length ≤ 1000000000 := by clear hv hv2; rw [List.length_append, ho]; simp; omega
    have f1 : out.length < 35184372088832 := by clear hv hv2; omega
    clear hv hv2
    refine Ev.step (f := fun k => (astrolaberef01_Trim.f k (out ++ [(c : Int) % 4294967296])).bind fun t => some (t, true)) (fun k => ?_) (Ev.bind (f := fun _ t => some (t, true)) (rTrim_sp hdl hlen) (Ev.now _))
    simp only [astrolaberef01_Shl.l0]
    rw [if_neg (Int.lt_irrefl _), if_pos f1]
  | succ d ih =>
    intro i out c hd ho hdo hc hv
    have hx := Dig_getD ha i
    have hxn : (a.getD i 0).toNat < 4294967296 := by clear hv; omega
    obtain ⟨P, hP⟩ : ∃ P, P = (a.getD i 0).toNat * 2 ^ r + c := ⟨_, rfl⟩
    have hPl : P / 4294967296 < 2 ^ r := by
      rw [Nat.div_lt_iff_lt_mul (by decide), hP, Nat.mul_comm (2 ^ r)]
      have := Nat.mul_le_mul_right (2 ^ r) (show (a.getD i 0).toNat + 1 ≤ 4294967296 from hxn)
      rw [Nat.add_mul, Nat.one_mul] at this
      exact Nat.lt_of_lt_of_le (Nat.add_lt_add_left hc _) this
    have f1 : out.length < 35184372088832 := by clear hv; omega
    have f2 : (i : Int) < (a.length : Int) := by clear hv; omega
    have f3 : (0 : Int) ≤ (i : Int) := Int.natCast_nonneg i
    have f4 : (0 : Int) ≤ (r : Int) := Int.natCast_nonneg r
    have f5 : d + (i + 1) = a.length := by clear hv; omega
    have f6 : (out ++ [((P : Int) % 4294967296)]).length = q + (i + 1) := by rw [List.length_append, ho]; rfl
    have t2 : Int.tmod (n : Int) 32 = (r : Nat) := by
      have : Int.tmod (n : Int) 32 = ((n % 32 : Nat) : Int) := rfl
      rw [this]; omega
    have t5 : wrap64 ((i : Int) + 1) = (i + 1 : Nat) := by clear hv t2; rw [w64] <;> omega
    have hPd : (P : Int) / 4294967296 = ((P / 4294967296 : Nat) : Int) := by omega
    have hPm : ((P : Int) % 4294967296).toNat = P % 4294967296 := by omega
    have key : Ev (fun k => astrolaberef01_Shl.l0 k a n (out ++ [((P : Int) % 4294967296)]) ((P / 4294967296 : Nat) : Int) (i + 1 : Nat)) (dg (val a * 2 ^ n), true) := by
      refine ih (i + 1) _ _ f5 f6 (Dig_snoc hdo (mod_bd _)) hPl ?_
      rw [val_snoc, hPm, ho, val_take_succ, Nat.pow_add, Nat.pow_succ, ← Nat.mul_assoc (4294967296 ^ q), Nat.mul_assoc (4294967296 ^ q * 4294967296 ^ i)]
      exact rshl_alg hv hP (Nat.mod_add_div P 4294967296)
    refine Ev.step (fun k => ?_) key
    clear key ih hv
    simp only [astrolaberef01_Shl.l0]
    rw [if_pos f2, if_pos f3, t2, if_pos f4, if_pos f1, t5, rd_nat, shl64 hx hr, or64c hxn hr hc, ← hP, hPd]

theorem rShl_sp {l : List Int} {n : Int} (h : Dig l) (hl : l.length ≤ 100000000) :
    Ev (fun k => astrolaberef01_Shl.f k l n) (if 0 ≤ n ∧ n ≤ 100000 then (dg (val l * 2 ^ n.toNat), true) else ([], false)) := by
  by_cases hb : 0 ≤ n ∧ n ≤ 100000
  · rw [if_pos hb]
    obtain ⟨m, rfl⟩ := Int.eq_ofNat_of_zero_le hb.1
    have hm : m ≤ 100000 := by omega
    rw [Int.toNat_natCast]
    have h0 := rShl_loop l h hl m (m / 32) (m % 32) (by omega) (by omega) hm l.length 0 (List.replicate (m / 32) 0) 0 (by omega) (by simp) (Dig_zeros _) (Nat.two_pow_pos _) (by rw [val_zeros, take_zero_val, Nat.mul_zero, Nat.zero_mul, Nat.zero_mul])
    have t1 : wrap64 (Int.tdiv (m : Int) 32) = (m / 32 : Nat) := by
      have : Int.tdiv (m : Int) 32 = ((m / 32 : Nat) : Int) := rfl
      rw [this, w64] <;> omega
    refine Ev.congr (f := fun k => astrolaberef01_Shl.j0 k l m false) (fun k => ?_) (Ev.step (fun k => ?_) h0)
    · unfold astrolaberef01_Shl.f
      rw [if_neg (by omega), decide_eq_false (by omega)]
    · simp only [astrolaberef01_Shl.j0]
      rw [if_neg (by decide), t1, if_pos (Int.natCast_nonneg _), if_pos (by omega)]
      rfl
  · rw [if_neg hb]
    refine Ev.step (f := fun _ => some ([], false)) (fun k => ?_) (Ev.now _)
    unfold astrolaberef01_Shl.f
    by_cases h0 : n < 0
    · rw [if_pos h0]; simp [astrolaberef01_Shl.j0]
    · rw [if_neg h0, decide_eq_true (by omega)]; simp [astrolaberef01_Shl.j0]

theorem rShr_loop (a : List Int) (ha : Dig a) (hn : a.length ≤ 100000000) (n q r : Nat) (hr : n % 32 = r) (hqa : q ≤ a.length) :
    ∀ (d i : Nat) (out : List Int), d + (q + i) = a.length → out.length = i → Dig out → (∀ m, m < i → out.getD m 0 = ((val a / 4294967296 ^ q / 2 ^ r / 4294967296 ^ m % 4294967296 : Nat) : Int)) →
      Ev (fun k => astrolaberef01_Shr.l0 k a n out (q + i : Nat)) (dg (val a / 4294967296 ^ q / 2 ^ r)) := by
  have hr32 : r < 32 := by omega
  intro d
  induction d with
  | zero =>
    intro i out hd ho hdo hv
    have h1 := val_of_digits (val a / 4294967296 ^ q / 2 ^ r) out (fun m hm => hv m (by rw [← ho]; exact hm))
    have hlt : val a / 4294967296 ^ q / 2 ^ r < 4294967296 ^ out.length := by
      refine Nat.lt_of_le_of_lt (Nat.div_le_self _ _) ?_
      rw [Nat.div_lt_iff_lt_mul (pow_pos' q), ← Nat.pow_add, show out.length + q = a.length by clear hv h1; omega]
      exact val_lt ha
    rw [Nat.mod_eq_of_lt hlt] at h1
    rw [← h1]
    clear hlt h1 hv
    refine Ev.step (f := fun k => (astrolaberef01_Trim.f k out).bind fun t => some t) (fun k => ?_) (Ev.bind (f := fun _ t => some t) (rTrim_sp hdo (by omega)) (Ev.now _))
    simp only [astrolaberef01_Shr.l0]
    rw [if_neg (by omega)]
  | succ d ih =>
    intro i out hd ho hdo hv
    have hx := Dig_getD ha (q + i)
    have hx1 := Dig_getD ha (q + i + 1)
    have f1 : ((q + i : Nat) : Int) < (a.length : Int) := by clear hv; omega
    have f2 : (0 : Int) ≤ (r : Int) := Int.natCast_nonneg r
    have f3 : out.length < 35184372088832 := by clear hv; omega
    have f4 : d + (q + (i + 1)) = a.length := by clear hv; omega
    have t2 : Int.tmod (n : Int) 32 = (r : Nat) := by
      have : Int.tmod (n : Int) 32 = ((n % 32 : Nat) : Int) := rfl
      rw [this]; omega
    have t5 : wrap64 (((q + i : Nat) : Int) + 1) = (q + i + 1 : Nat) := by clear hv t2; rw [w64] <;> omega
    have dig : ∀ m, a.getD (q + m) 0 = ((val a / 4294967296 ^ q / 4294967296 ^ m % 4294967296 : Nat) : Int) := by
      intro m
      rw [getD_val ha, Nat.pow_add, Nat.div_div_eq_div_mul]
    have hvd : (a.getD (q + i) 0 + a.getD (q + i + 1) 0 * 4294967296) / 2 ^ r % 4294967296 = ((val a / 4294967296 ^ q / 2 ^ r / 4294967296 ^ i % 4294967296 : Nat) : Int) := by
      rw [← shr_digit hr32, dig i, show q + i + 1 = q + (i + 1) from rfl, dig (i + 1)]
      exact cast_shr _ _ _
    have key : Ev (fun k => astrolaberef01_Shr.l0 k a n (out ++ [(a.getD (q + i) 0 + a.getD (q + i + 1) 0 * 4294967296) / 2 ^ r % 4294967296]) (q + (i + 1) : Nat)) (dg (val a / 4294967296 ^ q / 2 ^ r)) := by
      refine ih (i + 1) _ f4 (by rw [List.length_append, ho]; rfl) (Dig_snoc hdo (mod_bd _)) (fun m hm => ?_)
      rw [List.getD_eq_getElem?_getD, List.getElem?_append]
      by_cases hmi : m < out.length
      · rw [if_pos hmi, ← List.getD_eq_getElem?_getD]
        exact hv m (by rw [← ho]; exact hmi)
      · have hme : m = i := by clear hv hvd; omega
        subst hme
        rw [if_neg hmi, ho, Nat.sub_self, hvd]
        rfl
    refine Ev.step (fun k => ?_) key
    clear key ih hv hvd dig
    simp only [astrolaberef01_Shr.l0]
    rw [if_pos f1, t5, rat_eq ha, rat_eq ha]
    simp only [Option.bind_some]
    rw [t2, if_pos f2, if_pos f3, or64' hx1 hx, shr64 hr32]
    rfl

theorem rShr_sp {l : List Int} {n : Int} (h : Dig l) (hl : l.length ≤ 100000000) (hn : n ≤ 9223372036854775807) :
    Ev (fun k => astrolaberef01_Shr.f k l n) (if n < 0 then dg (val l) else dg (val l / 2 ^ n.toNat)) := by
  unfold astrolaberef01_Shr.f
  by_cases h0 : n < 0
  · rw [if_pos h0]
    exact Ev.ifp h0 (Ev.bind (f := fun _ t => some t) (rTrim_sp h (by omega)) (Ev.now _))
  rw [if_neg h0]
  refine Ev.ifn h0 ?_
  obtain ⟨m, rfl⟩ := Int.eq_ofNat_of_zero_le (show 0 ≤ n by omega)
  rw [Int.toNat_natCast, div_two_pow]
  have t1 : wrap64 (Int.tdiv (m : Int) 32) = (m / 32 : Nat) := by
    have : Int.tdiv (m : Int) 32 = ((m / 32 : Nat) : Int) := rfl
    rw [this, w64] <;> omega
  rw [t1]
  by_cases h1 : l.length ≤ m / 32
  · have hz : val l / 4294967296 ^ (m / 32) = 0 := Nat.div_eq_of_lt (Nat.lt_of_lt_of_le (val_lt h) (Nat.pow_le_pow_right (by decide) h1))
    rw [hz, Nat.zero_div, dg_zero]
    exact Ev.ifp (by omega) (Ev.now _)
  · refine Ev.ifn (by omega) ?_
    exact rShr_loop l h hl m (m / 32) (m % 32) rfl (by omega) (l.length - m / 32) 0 [] (by omega) rfl Dig_nil (fun m hm => absurd hm (by omega))

end Go.Proofs.Ytmkffnhgcpdbaaa.Sp
