/- The plain law of chapter 1's differences and moves. -/
import Derived.Test.YtohkjfdcmiiehaaP1
import Derived.Test.YtohkjfdcmiiehaaP2
import Derived.Test.YtohkjfdcmiiehaaP4
import Derived.Test.YtohkjfdcmiiehaaSc
namespace Go.Proofs.Ytohkjfdcmiiehaa.Sp
open Go.RowKit Go.Proofs.Ytohkjfdcmiiehaa.P Go.Proofs.Ytohkjfdcmiiehaa.Num Go.Proofs.YtohkjfdcmiiehaaW.PrintWords Go.Proofs.YtohkjfdcmiiehaaW.PrintLast Go.Proofs.YtohkjfdcmiiehaaW.PrintMore

theorem sub_step {x y c : Int} (hx : 0 ≤ x) (hy : 0 ≤ y) (hc : 0 ≤ c) (hx1 : x < 4294967296) (hy1 : y < 4294967296) (hc1 : c ≤ 1) :
    ((x - y - c) % 4294967296).toNat + y.toNat + c.toNat = x.toNat + 4294967296 * (if x < y + c then (1 : Int) else 0).toNat := by
  split <;> omega

theorem brw_bd (x y c : Int) : 0 ≤ (if x < y + c then (1 : Int) else 0) ∧ (if x < y + c then (1 : Int) else 0) ≤ 1 := by split <;> omega

theorem Sub_loop (a b : List Int) (ha : Dig a) (hb : Dig b) (hn : a.length ≤ 100000000) (hl : b.length ≤ a.length) :
    ∀ (d i : Nat) (out : List Int) (c : Int), d + i = a.length → out.length = a.length → Dig out → 0 ≤ c ∧ c ≤ 1 →
      val (out.take i) + val (b.take i) = val (a.take i) + 4294967296 ^ i * c.toNat →
      Ev (fun k => nat_Sub.l0 k a b out c a.length i) (if val b ≤ val a then (dg (val a - val b), true) else ([], false)) := by
  intro d
  induction d with
  | zero =>
    intro i out c hd ho hdo hc hv
    have e : i = a.length := by omega
    subst e
    rw [take_all_val, take_ge_val _ (Nat.le_of_eq ho), take_ge_val _ hl] at hv
    have hb0 := val_lt hdo
    rw [ho] at hb0
    rcases (show c = 0 ∨ c = 1 by clear hv hb0; omega) with rfl | rfl
    · rw [Int.toNat_zero, Nat.mul_zero, Nat.add_zero] at hv
      clear hb0
      have hle : val b ≤ val a := by omega
      have hs : val a - val b = val out := by omega
      rw [if_pos hle, hs]
      refine Ev.step (f := fun k => (nat_trim.f k out).bind fun t => some (t, true)) (fun k => ?_) (Ev.bind (f := fun _ t => some (t, true)) (trim_sp (by clear hv hle hs; omega) hdo) (Ev.now _))
      simp only [nat_Sub.l0]
      rw [if_neg (Int.lt_irrefl _), if_neg (Int.lt_irrefl _)]
    · have hlt : ¬ val b ≤ val a := by
        have : (1 : Int).toNat = 1 := rfl
        rw [this, Nat.mul_one] at hv
        generalize 4294967296 ^ a.length = p at hv hb0
        omega
      rw [if_neg hlt]
      refine Ev.step (f := fun k => some ([], false)) (fun k => ?_) (Ev.now _)
      simp only [nat_Sub.l0]
      rw [if_neg (Int.lt_irrefl _), if_pos (by decide)]
  | succ d ih =>
    intro i out c hd ho hdo hc hv
    have hai := Dig_getD ha i
    have hbi := Dig_getD hb i
    have e1 : d + (i + 1) = a.length := by clear hv; omega
    have e2 : i < out.length := by clear hv; omega
    have f1 : (i : Int) < (a.length : Int) := by clear hv; omega
    have f2 : (0 : Int) ≤ (i : Int) := Int.natCast_nonneg i
    have f3 : (i : Int) < (out.length : Int) := by clear hv; omega
    have hw : wrap64 ((i : Int) + 1) = ((i + 1 : Nat) : Int) := by clear hv; rw [w64] <;> omega
    have hs := sub_step hai.1 hbi.1 hc.1 hai.2 hbi.2 hc.2
    have key : Ev (fun k => nat_Sub.l0 k a b (out.set i ((a.getD i 0 - b.getD i 0 - c) % 4294967296)) (if a.getD i 0 < b.getD i 0 + c then 1 else 0) a.length (i + 1 : Nat)) (if val b ≤ val a then (dg (val a - val b), true) else ([], false)) := by
      refine ih (i + 1) _ _ e1 (by simpa using ho) (Dig_set hdo _ (mod_bd _)) (brw_bd _ _ _) ?_
      rw [val_take_set _ _ _ e2, val_take_succ, val_take_succ, Nat.pow_succ]
      generalize ((a.getD i 0 - b.getD i 0 - c) % 4294967296).toNat = z at hs ⊢
      generalize (if a.getD i 0 < b.getD i 0 + c then (1 : Int) else 0).toNat = q at hs ⊢
      have : 4294967296 ^ i * (z + (b.getD i 0).toNat + c.toNat) = 4294967296 ^ i * ((a.getD i 0).toNat + 4294967296 * q) := by rw [hs]
      grind
    refine Ev.step (fun k => ?_) key
    clear key hv hs ih
    simp only [nat_Sub.l0]
    rw [if_pos f1]
    by_cases hib : i < b.length
    · rw [if_pos (Int.ofNat_lt.2 hib), if_pos f2, if_pos f1, rd_nat, rd_nat, Sub32_eq hai hbi hc]
      simp only [Option.bind_some]
      rw [if_pos f3, hw]
      rfl
    · have hz : b.getD i 0 = 0 := getD_ge b (by omega)
      have h0 : (0 : Int) ≤ 0 ∧ (0 : Int) < 4294967296 := by decide
      rw [if_neg (fun h => hib (Int.ofNat_lt.1 h)), if_pos f2, if_pos f1, rd_nat, Sub32_eq hai h0 hc]
      simp only [Option.bind_some]
      rw [if_pos f3, hw, hz]
      rfl

theorem Sub_sp {a b : List Int} (ha : Dig a) (hb : Dig b) (hn : a.length ≤ 100000000) (hm : b.length ≤ 100000000) :
    Ev (fun k => nat_Sub.f k a b) (if val b ≤ val a then (dg (val a - val b), true) else ([], false)) := by
  refine Ev.bind (f := fun k t129 => _) (trim_sp (by omega) ha) (Ev.bind (f := fun k t132 => _) (trim_sp (by omega) hb) ?_)
  have la := dg_len ha
  have lb := dg_len hb
  by_cases h : (dg (val a)).length < (dg (val b)).length
  · have h1 := lt_of_len h
    rw [if_neg (Nat.not_le.2 h1)]
    refine Ev.congr (f := fun _ => some ([], false)) (fun k => ?_) (Ev.now _)
    rw [if_pos (by omega)]
  · have h0 := Sub_loop (dg (val a)) (dg (val b)) (Dig_dg _) (Dig_dg _) (by omega) (by omega) (dg (val a)).length 0 (List.replicate (dg (val a)).length 0) 0 (by omega) (by simp) (Dig_zeros _) (by decide) (by simp [val])
    rw [val_dg, val_dg] at h0
    refine Ev.congr (fun k => ?_) h0
    rw [if_neg (by omega), if_pos (by omega), if_pos (by omega)]
    rfl

/-! Moves -/
theorem tdiv_nat (n : Nat) : wrap64 (Int.tdiv (n : Int) 32) = if n ≤ 1000000000000 then ((n / 32 : Nat) : Int) else wrap64 (Int.tdiv (n : Int) 32) := by
  split
  · have : Int.tdiv (n : Int) 32 = ((n / 32 : Nat) : Int) := rfl
    rw [this, w64] <;> omega
  · rfl
theorem tmod_nat (n : Nat) : Int.tmod (n : Int) 32 = ((n % 32 : Nat) : Int) := rfl

theorem shl64 {x : Int} {r : Nat} (hx : 0 ≤ x ∧ x < 4294967296) (hr : r < 32) : shl .u64 (IntKind.u64.wrap x) (r : Int) = ((x.toNat * 2 ^ r : Nat) : Int) := by
  unfold shl
  rw [dig64 hx]
  have hm : min ((r : Int).toNat) IntKind.u64.bits = r := by
    have : IntKind.u64.bits = 64 := rfl
    rw [this]; omega
  rw [hm]
  have h2 : 2 ^ r ≤ 2 ^ 31 := Nat.pow_le_pow_right (by omega) (by omega)
  have h3 := Nat.mul_le_mul (show x.toNat ≤ 4294967295 by omega) h2
  have e : x * 2 ^ r = ((x.toNat * 2 ^ r : Nat) : Int) := by
    rw [Int.natCast_mul, Int.toNat_of_nonneg hx.1, Int.natCast_pow]; rfl
  rw [e, u64 (Int.natCast_nonneg _) (by omega)]

theorem or_low {o low r : Nat} (ho : o < 2 ^ r) (hd : low % 2 ^ r = 0) : o ||| low = o + low := by
  have hq : low = 2 ^ r * (low / 2 ^ r) := by
    have := Nat.div_add_mod low (2 ^ r)
    rw [hd, Nat.add_zero] at this
    exact this.symm
  rw [hq, Nat.or_comm, ← Nat.two_pow_add_eq_or_of_lt ho, Nat.add_comm]

/-- What one digit gives, moved up by r bits: a low digit, a multiple of 2^r, and a high one below 2^r. -/
theorem shl_parts {x r : Nat} (hx : x < 4294967296) (hr : r < 32) : (x * 2 ^ r) % 4294967296 % 2 ^ r = 0 ∧ (x * 2 ^ r) / 4294967296 < 2 ^ r := by
  constructor
  · have e : 4294967296 = 2 ^ r * 2 ^ (32 - r) := by rw [← Nat.pow_add, show r + (32 - r) = 32 by omega]
    rw [e, Nat.mod_mul_right_mod, Nat.mul_mod_left]
  · rw [Nat.div_lt_iff_lt_mul (by omega), Nat.mul_comm (2 ^ r)]
    exact Nat.mul_lt_mul_of_pos_right hx (Nat.two_pow_pos r)

theorem shl_alg (V b p w x : Nat) : V * p * b + b * w * (x * p) = (V + w * x) * p * b := by grind

theorem shl_fin {W W1 vo o lo hi P b w V p x : Nat} (s1 : W1 + b * w * o = vo + (b * w * o + b * w * lo)) (s2 : W = W1 + b * w * (4294967296 * hi)) (hv : vo = V * p * b) (hm : lo + 4294967296 * hi = P) (hP : x * p = P) : W = (V + w * x) * p * b := by
  have h1 : W1 = vo + b * w * lo := by
    have : W1 + b * w * o = (vo + b * w * lo) + b * w * o := by rw [s1, Nat.add_comm (b * w * o), ← Nat.add_assoc]
    exact Nat.add_right_cancel this
  subst h1 hv s2
  have h2 : b * w * (lo + 4294967296 * hi) = b * w * (x * p) := by rw [hm, hP]
  rw [Nat.mul_add] at h2
  rw [Nat.add_assoc, h2]
  exact shl_alg _ _ _ _ _

theorem shl_step {out : List Int} {V q i r : Nat} {x : Int} (hr : r < 32) (hx : 0 ≤ x ∧ x < 4294967296) (hd : Dig out) (hlen : q + i + 1 < out.length)
    (hz : ∀ m, q + i + 1 ≤ m → out.getD m 0 = 0) (ho : (out.getD (q + i) 0).toNat < 2 ^ r) (hv : val out = V * 2 ^ r * 4294967296 ^ q)
    {P : Nat} (hPe : x.toNat * 2 ^ r = P) {out2 : List Int} (h2 : out2 = (out.set (q + i) (Go.bits .or .u32 (out.getD (q + i) 0) ((P : Int) % 4294967296))).set (q + i + 1) ((P : Int) / 4294967296 % 4294967296)) :
    out2.length = out.length ∧ Dig out2 ∧ (∀ m, q + i + 2 ≤ m → out2.getD m 0 = 0) ∧ (out2.getD (q + i + 1) 0).toNat < 2 ^ r ∧ val out2 = (V + 4294967296 ^ i * x.toNat) * 2 ^ r * 4294967296 ^ q := by
  have hxn : x.toNat < 4294967296 := by clear hv; omega
  obtain ⟨p1, p2⟩ := shl_parts hxn hr
  have h31 : 2 ^ r ≤ 2147483648 := Nat.pow_le_pow_right (n := 2) (by omega) (show r ≤ 31 by clear hv; omega)
  have hg := Dig_getD hd (q + i)
  obtain ⟨o, ho'⟩ := Int.eq_ofNat_of_zero_le hg.1
  rw [ho'] at ho hg
  rw [Int.toNat_natCast] at ho
  rw [hPe] at p1 p2
  have c1 : ((P : Int) % 4294967296) = ((P % 4294967296 : Nat) : Int) := by omega
  have c2 : ((P : Int) / 4294967296 % 4294967296) = ((P / 4294967296 : Nat) : Int) := by clear hv; omega
  have hlow : P % 4294967296 < 4294967296 := Nat.mod_lt _ (by omega)
  have e1 : Go.bits .or .u32 (out.getD (q + i) 0) ((P : Int) % 4294967296) = ((o + P % 4294967296 : Nat) : Int) := by
    rw [ho', c1, or32 _ _ (by clear hv; omega) hlow, or_low ho p1]
  have hsum : o + P % 4294967296 < 4294967296 := by
    rw [← or_low ho p1]
    exact Nat.or_lt_two_pow (n := 32) (by clear hv; omega) hlow
  have ho2 : out2 = (out.set (q + i) ((o + P % 4294967296 : Nat) : Int)).set (q + i + 1) ((P / 4294967296 : Nat) : Int) := by
    rw [h2, e1, c2]
  clear h2
  subst ho2
  have hhi : P / 4294967296 < 4294967296 := by clear hv; omega
  refine ⟨by simp, Dig_set (Dig_set hd _ ⟨Int.natCast_nonneg _, by omega⟩) _ ⟨Int.natCast_nonneg _, by omega⟩, ?_, ?_, ?_⟩
  · intro m hm
    rw [getD_set, if_neg (fun h => by have := h.1; clear hv; omega), getD_set, if_neg (fun h => by have := h.1; clear hv; omega)]
    exact hz m (by clear hv; omega)
  · rw [getD_set, if_pos ⟨rfl, by simpa using hlen⟩, Int.toNat_natCast]
    exact p2
  · have s1 := val_set out (q + i) ((o + P % 4294967296 : Nat) : Int) (by clear hv; omega)
    have s2 := val_set (out.set (q + i) ((o + P % 4294967296 : Nat) : Int)) (q + i + 1) ((P / 4294967296 : Nat) : Int) (by simpa using hlen)
    rw [getD_set, if_neg (fun h => by have := h.1; clear hv s1 s2; omega), hz _ (Nat.le_refl _)] at s2
    rw [ho'] at s1
    rw [Int.toNat_natCast, Int.toNat_natCast] at s1
    rw [Int.toNat_natCast, Int.toNat_zero, Nat.mul_zero, Nat.add_zero] at s2
    have hm := Nat.mod_add_div P 4294967296
    clear h31 p1 p2 ho hg hlow hsum hhi hz hlen hx hxn c1 c2 e1 hd ho'
    generalize val ((out.set (q + i) ((o + P % 4294967296 : Nat) : Int)).set (q + i + 1) ((P / 4294967296 : Nat) : Int)) = W at s2 ⊢
    generalize val (out.set (q + i) ((o + P % 4294967296 : Nat) : Int)) = W1 at s1 s2
    rw [Nat.mul_add] at s1
    rw [Nat.pow_succ, Nat.mul_assoc] at s2
    generalize P % 4294967296 = lo at s1 hm
    generalize P / 4294967296 = hi at s2 hm
    rw [Nat.pow_add] at s1 s2
    exact shl_fin s1 s2 hv hm hPe

theorem Shl_loop (a : List Int) (ha : Dig a) (hn : a.length ≤ 100000000) (n q r : Nat) (hqr : n = 32 * q + r) (hr : r < 32) (hn2 : n ≤ 100000) :
    ∀ (d i : Nat) (out : List Int), d + i = a.length → out.length = q + a.length + 1 → Dig out → (∀ m, q + i + 1 ≤ m → out.getD m 0 = 0) → (out.getD (q + i) 0).toNat < 2 ^ r → val out = val (a.take i) * 2 ^ r * 4294967296 ^ q →
      Ev (fun k => nat_Shl.l0 k n out a a.length i) (dg (val a * 2 ^ n), true) := by
  intro d
  induction d with
  | zero =>
    intro i out hd ho hdo _ _ hv
    have e : i = a.length := by omega
    subst e
    have hv2 : val out = val a * 2 ^ n := by
      rw [hv, take_all_val, hqr, Nat.pow_add, Nat.pow_mul]
      grind
    rw [← hv2]
    clear hv hv2
    refine Ev.step (f := fun k => (nat_trim.f k out).bind fun t => some (t, true)) (fun k => ?_) (Ev.bind (f := fun _ t => some (t, true)) (trim_sp (by omega) hdo) (Ev.now _))
    simp only [nat_Shl.l0]
    rw [if_neg (Int.lt_irrefl _)]
  | succ d ih =>
    intro i out hd ho hdo hz hlow hv
    have hx := Dig_getD ha i
    have hlen : q + i + 1 < out.length := by clear hv; omega
    obtain ⟨s1, s2, s3, s4, s5⟩ := shl_step (V := val (a.take i)) hr hx hdo hlen hz hlow hv rfl rfl
    have key := ih (i + 1) _ (by clear hv s5; omega) (s1.trans ho) s2 (fun m hm => s3 m (by clear hv s5; omega)) s4 (by rw [s5, val_take_succ])
    refine Ev.step (fun k => ?_) key
    clear key ih hv s1 s2 s3 s4 s5 hz hlow
    have t1 : wrap64 (Int.tdiv (n : Int) 32) = (q : Nat) := by
      have : Int.tdiv (n : Int) 32 = ((n / 32 : Nat) : Int) := rfl
      rw [this, w64] <;> omega
    have t2 : Int.tmod (n : Int) 32 = (r : Nat) := by
      have : Int.tmod (n : Int) 32 = ((n % 32 : Nat) : Int) := rfl
      rw [this]; omega
    have t3 : wrap64 ((q : Int) + (i : Int)) = (q + i : Nat) := by clear t1 t2; rw [w64] <;> omega
    have t4 : wrap64 (((q + i : Nat) : Int) + 1) = (q + i + 1 : Nat) := by clear t1 t2 t3; rw [w64] <;> omega
    have t5 : wrap64 ((i : Int) + 1) = (i + 1 : Nat) := by clear t1 t2 t3 t4; rw [w64] <;> omega
    have f1 : (i : Int) < (a.length : Int) := by clear t1 t2 t3 t4; omega
    have f2 : (0 : Int) ≤ (i : Int) := Int.natCast_nonneg i
    have f3 : (0 : Int) ≤ (r : Int) := Int.natCast_nonneg r
    have f4 : (0 : Int) ≤ ((q + i : Nat) : Int) := Int.natCast_nonneg _
    have f5 : ((q + i : Nat) : Int) < (out.length : Int) := by clear t1 t2 t3 t4; omega
    have f6 : (0 : Int) ≤ ((q + i + 1 : Nat) : Int) := Int.natCast_nonneg _
    have f7 : ((q + i + 1 : Nat) : Int) < (out.length : Int) := by clear t1 t2 t3 t4; omega
    simp only [nat_Shl.l0]
    rw [if_pos f1, if_pos f2, if_pos f1, t2, if_pos f3, t1, t3, if_pos f4, if_pos f5, t4, if_pos f6, if_pos f7, t5, rd_nat, rd_nat, shl64 hx hr]
    rfl

theorem Shl_sp {l : List Int} {n : Int} (h : Dig l) (hl : l.length ≤ 100000000) :
    Ev (fun k => nat_Shl.f k l n) (if 0 ≤ n ∧ n ≤ 100000 then (dg (val l * 2 ^ n.toNat), true) else ([], false)) := by
  by_cases hb : 0 ≤ n ∧ n ≤ 100000
  · rw [if_pos hb]
    obtain ⟨m, rfl⟩ := Int.eq_ofNat_of_zero_le hb.1
    have hm : m ≤ 100000 := by omega
    rw [Int.toNat_natCast]
    have la := dg_len h
    have h0 := Shl_loop (dg (val l)) (Dig_dg _) (by omega) m (m / 32) (m % 32) (by omega) (by omega) hm (dg (val l)).length 0 (List.replicate (m / 32 + (dg (val l)).length + 1) 0) (by omega) (by simp) (Dig_zeros _) (fun q _ => by simp [List.getD_eq_getElem?_getD, List.getElem?_replicate]; split <;> rfl) (by
      have : (List.replicate (m / 32 + (dg (val l)).length + 1) (0 : Int)).getD (m / 32 + 0) 0 = 0 := by simp [List.getD_eq_getElem?_getD, List.getElem?_replicate]; split <;> rfl
      rw [this]; exact Nat.two_pow_pos _) (by rw [val_zeros, take_zero_val]; simp)
    rw [val_dg] at h0
    have t1 : wrap64 (Int.tdiv (m : Int) 32) = (m / 32 : Nat) := by
      have : Int.tdiv (m : Int) 32 = ((m / 32 : Nat) : Int) := rfl
      rw [this, w64] <;> omega
    have t3 : wrap64 (((m / 32 : Nat) : Int) + ((dg (val l)).length : Int)) = (m / 32 + (dg (val l)).length : Nat) := by rw [w64] <;> omega
    have t4 : wrap64 (((m / 32 + (dg (val l)).length : Nat) : Int) + 1) = (m / 32 + (dg (val l)).length + 1 : Nat) := by clear t1 t3; rw [w64] <;> omega
    refine Ev.congr (f := fun k => nat_Shl.j0 k l m false) (fun k => ?_) ?_
    · unfold nat_Shl.f
      rw [if_neg (by omega), decide_eq_false (by omega)]
    · refine Ev.step (f := ?F) (fun k => ?_) ?_
      rotate_left
      · simp only [nat_Shl.j0]
        rw [if_neg (by decide)]
      · refine Ev.bind (f := fun k t => _) (trim_sp (by omega) h) (Ev.congr (fun k => ?_) h0)
        rw [t1, t3, t4, if_pos (Int.natCast_nonneg _), if_pos (by clear t1 t3 t4; omega)]
        rfl
  · rw [if_neg hb]
    refine Ev.step (f := fun _ => some ([], false)) (fun k => ?_) (Ev.now _)
    unfold nat_Shl.f
    by_cases h0 : n < 0
    · rw [if_pos h0]; simp [nat_Shl.j0]
    · rw [if_neg h0, decide_eq_true (by omega)]; simp [nat_Shl.j0]

end Go.Proofs.Ytohkjfdcmiiehaa.Sp
