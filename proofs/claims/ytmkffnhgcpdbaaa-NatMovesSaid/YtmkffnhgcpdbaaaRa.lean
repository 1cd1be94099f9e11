/- The plain law of the document's own answer to chapter 1: the same numbers. -/
import Derived.Test.YtmkffnhgcpdbaaaP5
import Derived.Test.YtmkffnhgcpdbaaaP6
import Derived.Test.YtmkffnhgcpdbaaaSf
namespace Go.Proofs.Ytmkffnhgcpdbaaa.Sp
open Go.RowKit Go.Proofs.Ytmkffnhgcpdbaaa.P Go.Proofs.Ytmkffnhgcpdbaaa.Num Go.Proofs.YtmkffnhgcpdbaaaW.PrintWords Go.Proofs.YtmkffnhgcpdbaaaW.PrintLast Go.Proofs.YtmkffnhgcpdbaaaW.PrintMore

theorem rTrim_loop (l : List Int) (h : Dig l) (hl : l.length ≤ 1000000000) : ∀ n : Nat, n ≤ l.length → val (l.take n) = val l → Ev (fun k => astrolaberef01_Trim.l0 k l n) (dg (val l)) := by
  intro n
  induction n with
  | zero =>
    intro _ hv
    have h0 : val l = 0 := hv.symm
    refine Ev.step (f := fun _ => some []) (fun k => ?_) (Ev.eq (Ev.now _) (by rw [h0, dg_zero]))
    simp only [astrolaberef01_Trim.l0]
    rw [if_neg (by decide), if_pos (by decide), if_pos (by omega), if_pos (by simp)]
    rfl
  | succ n ih =>
    intro hn hv
    have hw : wrap64 (((n + 1 : Nat) : Int) - 1) = (n : Int) := by rw [w64] <;> omega
    by_cases h0 : l.getD n 0 = 0
    · have hv2 : val (l.take n) = val l := by
        rw [val_take_succ, h0] at hv
        rw [← hv]; rfl
      refine Ev.step (fun k => ?_) (ih (by omega) hv2)
      simp only [astrolaberef01_Trim.l0]
      rw [if_pos (by omega), hw, if_pos (by omega), if_pos (by omega), rd_nat, if_pos h0]
    · have hs : dg (val l) = l.take (n + 1) := by
        rw [← hv]
        refine dg_val ⟨Dig_take h _, .inr ?_⟩
        rw [List.length_take, Nat.min_eq_left hn, Nat.add_sub_cancel, List.getD_eq_getElem?_getD, List.getElem?_take, if_pos (by omega), ← List.getD_eq_getElem?_getD]
        exact h0
      have hlen : (l.take (n + 1)).length ≤ 1000000000 := by rw [List.length_take]; omega
      refine Ev.step (f := fun _ => some (l.take (n + 1))) (fun k => ?_) (Ev.eq (Ev.now _) hs.symm)
      simp only [astrolaberef01_Trim.l0]
      rw [if_pos (by omega), hw, if_pos (by omega), if_pos (by omega), rd_nat, if_neg h0, if_pos (by omega), if_pos (by omega), Int.toNat_natCast, if_pos (by rw [List.length_nil]; omega), List.nil_append]

theorem rTrim_sp {l : List Int} (h : Dig l) (hl : l.length ≤ 1000000000) : Ev (fun k => astrolaberef01_Trim.f k l) (dg (val l)) :=
  rTrim_loop l h hl l.length (Nat.le_refl _) (take_all_val l)

theorem rat_eq {l : List Int} (h : Dig l) (i : Nat) : astrolaberef01_at.f l i = some (l.getD i 0) := by
  unfold astrolaberef01_at.f
  by_cases hi : i < l.length
  · rw [if_neg (by omega), if_pos (by omega), if_pos (by omega), rd_nat, dig64 (Dig_getD h i)]
  · rw [if_pos (by omega), getD_ge l (by omega)]

theorem rFrom_sp {n : Int} (h0 : 0 ≤ n) (h1 : n < 18446744073709551616) : Ev (fun k => astrolaberef01_From.f k n) (dg n.toNat) := by
  refine Ev.bind (f := fun _ t => some t) (Ev.eq (rTrim_sp (l := [n % 4294967296, (n / 4294967296) % 4294967296]) ?_ (by simp)) ?_) (Ev.now _)
  · intro x hx; simp at hx; omega
  · rw [val_two]; congr 1; omega

theorem rSmall_sp {l : List Int} (h : Dig l) (hl : l.length ≤ 1000000000) : Ev (fun k => astrolaberef01_Small.f k l) (if val l < 18446744073709551616 then ((val l : Int), true) else (0, false)) := by
  refine Ev.bind (f := fun _ t => _) (rTrim_sp h hl) (Ev.congr (f := fun _ => some (if val l < 18446744073709551616 then ((val l : Int), true) else (0, false))) (fun _ => ?_) (Ev.now _))
  generalize val l = v
  by_cases h2 : (dg v).length ≤ 2
  · have hv := lt_of_dg_length h2
    have a0 : astrolaberef01_at.f (dg v) 0 = some ((v % 4294967296 : Nat) : Int) := by
      have := rat_eq (Dig_dg v) 0
      rw [dg_getD, Nat.pow_zero, Nat.div_one] at this
      exact this
    have a1 : astrolaberef01_at.f (dg v) 1 = some ((v / 4294967296 % 4294967296 : Nat) : Int) := by
      have := rat_eq (Dig_dg v) 1
      rw [dg_getD, Nat.pow_one] at this
      exact this
    rw [if_neg (by omega), a0, a1, if_pos (by omega)]
    simp only [Option.bind_some]
    rw [or64' (x := ((v / 4294967296 % 4294967296 : Nat) : Int)) (by omega) (by omega)]
    congr 2
    omega
  · have hv := le_of_dg_length (n := v) (k := 2) (by omega)
    rw [if_pos (by omega), if_neg (by omega)]

theorem rBits_loop : ∀ (m d c : Nat), d < 2 ^ m → c + m ≤ 10000000000 → Ev (fun k => astrolaberef01_Bits.l0 k c d) ((c + bl d : Nat) : Int) := by
  intro m
  have last : ∀ c : Nat, Ev (fun k => astrolaberef01_Bits.l0 k c ((0 : Nat) : Int)) ((c + bl 0 : Nat) : Int) := by
    intro c
    refine Ev.step (f := fun _ => some (c : Int)) (fun k => ?_) (Ev.eq (Ev.now _) (by rw [show bl 0 = 0 from rfl, Nat.add_zero]))
    simp only [astrolaberef01_Bits.l0]
    rw [if_neg (by decide)]
  induction m with
  | zero =>
    intro d c hd _
    have : d = 0 := by omega
    subst this
    exact last c
  | succ m ih =>
    intro d c hd hc
    by_cases h0 : d = 0
    · subst h0; exact last c
    · have hh : bl d = bl (d / 2) + 1 := by
        unfold bl
        rw [if_neg h0]
        by_cases h1 : d / 2 = 0
        · rw [if_pos h1]
          have : d = 1 := by omega
          subst this; decide
        · rw [if_neg h1, Nat.log2_def d, if_pos (by omega)]
      have hlt : d / 2 < 2 ^ m := by rw [Nat.pow_succ] at hd; omega
      refine Ev.eq (Ev.step (fun k => ?_) (ih (d / 2) (c + 1) hlt (by omega))) (by rw [hh]; congr 1; omega)
      simp only [astrolaberef01_Bits.l0]
      have e1 : wrap64 ((c : Int) + 1) = ((c + 1 : Nat) : Int) := by rw [w64] <;> omega
      have e2 : (d : Int) / 2 = ((d / 2 : Nat) : Int) := by omega
      rw [if_pos (by omega), e1, e2]

theorem rBits_sp {l : List Int} (h : Dig l) (hl : l.length ≤ 10000000) : Ev (fun k => astrolaberef01_Bits.f k l) (bl (val l) : Int) := by
  have hlen := dg_len h
  refine Ev.bind (f := fun _ t => _) (rTrim_sp h (by omega)) ?_
  generalize val l = v at hlen ⊢
  by_cases h0 : (dg v).length = 0
  · have := dg_length_zero.1 h0
    subst this
    exact Ev.ifp (by omega) (Ev.now _)
  obtain ⟨n, hn⟩ : ∃ n, (dg v).length = n + 1 := ⟨(dg v).length - 1, by omega⟩
  obtain ⟨b1, b2, b3⟩ := bl_dg hn
  have hw : wrap64 (((dg v).length : Int) - 1) = (n : Int) := by rw [w64] <;> omega
  have hd : rd (dg v) (n : Int) = ((v / 4294967296 ^ n : Nat) : Int) := by rw [rd_nat, dg_getD, Nat.mod_eq_of_lt b2]
  generalize v / 4294967296 ^ n = q at b1 b2 b3 hd
  have h2 := rBits_loop 32 q (32 * n) b2 (by omega)
  rw [← b1] at h2
  refine Ev.congr (fun k => ?_) h2
  have hw2 : wrap64 (32 * (n : Int)) = ((32 * n : Nat) : Int) := by rw [w64] <;> omega
  rw [if_neg (by omega), hw, if_pos (by omega), if_pos (by omega), hd, hw2]

theorem rBit_sp {l : List Int} {n : Int} (h : Dig l) (hn : n ≤ 9223372036854775807) :
    astrolaberef01_Bit.f l n = some (if n < 0 then false else (val l).testBit n.toNat) := by
  unfold astrolaberef01_Bit.f
  by_cases h0 : n < 0
  · rw [if_pos h0, if_pos h0]
  rw [if_neg h0, if_neg h0]
  obtain ⟨m, rfl⟩ := Int.eq_ofNat_of_zero_le (show 0 ≤ n by omega)
  rw [Int.toNat_natCast]
  have t1 : wrap64 (Int.tdiv (m : Int) 32) = (m / 32 : Nat) := by
    have : Int.tdiv (m : Int) 32 = ((m / 32 : Nat) : Int) := rfl
    rw [this, w64] <;> omega
  have t2 : Int.tmod (m : Int) 32 = (m % 32 : Nat) := rfl
  rw [t1, t2]
  by_cases h1 : m / 32 < l.length
  · rw [if_neg (by omega), if_pos (by omega), if_pos (by omega), if_pos (by omega), rd_nat, getD_val h]
    have hs : ∀ z : Nat, shr .u32 (z : Int) ((m % 32 : Nat) : Int) = ((z / 2 ^ (m % 32) : Nat) : Int) := by
      intro z
      unfold shr
      have hm : min (((m % 32 : Nat) : Int).toNat) IntKind.u32.bits = m % 32 := by
        have : IntKind.u32.bits = 32 := rfl
        rw [this]; omega
      rw [hm, Int.natCast_ediv, Int.natCast_pow]
      rfl
    rw [hs, ← testBit_digit]
    generalize hz : val l / 4294967296 ^ (m / 32) % 4294967296 = z
    have hzl : z < 4294967296 := by rw [← hz]; exact Nat.mod_lt _ (by decide)
    have hzd : z / 2 ^ (m % 32) < 4294967296 := Nat.lt_of_le_of_lt (Nat.div_le_self _ _) hzl
    have h1' := and32 (z / 2 ^ (m % 32)) 1 hzd (by decide)
    rw [Nat.testBit_eq_decide_div_mod_eq]
    have : Go.bits .and .u32 ((z / 2 ^ (m % 32) : Nat) : Int) 1 = ((z / 2 ^ (m % 32) &&& 1 : Nat) : Int) := h1'
    rw [this, Nat.and_one_is_mod]
    generalize z / 2 ^ (m % 32) % 2 = b
    congr 1
    by_cases hb : b = 1
    · subst hb; rfl
    · rw [decide_eq_false hb]
      exact beq_eq_false_iff_ne.2 (by omega)
  · rw [if_pos (by omega)]
    have hz : val l / 4294967296 ^ (m / 32) = 0 := Nat.div_eq_of_lt (Nat.lt_of_lt_of_le (val_lt h) (Nat.pow_le_pow_right (by omega) (by omega)))
    rw [← testBit_digit, hz, Nat.zero_mod, Nat.zero_testBit]

end Go.Proofs.Ytmkffnhgcpdbaaa.Sp
