/- The root, by Newton's way. -/
import Derived.Test.YtohkjfdcmiiehaaP1
import Derived.Test.YtohkjfdcmiiehaaP2
import Derived.Test.YtohkjfdcmiiehaaP11
import Derived.Test.YtohkjfdcmiiehaaQf
namespace Go.Proofs.Ytohkjfdcmiiehaa.Sp
open Go.RowKit Go.Proofs.Ytohkjfdcmiiehaa.P Go.Proofs.Ytohkjfdcmiiehaa.Num Go.Proofs.YtohkjfdcmiiehaaW.PrintWords Go.Proofs.YtohkjfdcmiiehaaW.PrintLast Go.Proofs.YtohkjfdcmiiehaaW.PrintMore

/-- The root of a number, downward. -/
def rt (x : Nat) : Nat := if _h : x = 0 then 0 else if (2 * rt (x / 4) + 1) * (2 * rt (x / 4) + 1) ≤ x then 2 * rt (x / 4) + 1 else 2 * rt (x / 4)
  decreasing_by all_goals omega

theorem rt_sp (x : Nat) : rt x * rt x ≤ x ∧ x < (rt x + 1) * (rt x + 1) := by
  induction x using Nat.strongRecOn with
  | _ x ih =>
    by_cases h : x = 0
    · subst h; rw [rt]; simp
    · obtain ⟨h1, h2⟩ := ih (x / 4) (by omega)
      rw [rt, dif_neg h]
      generalize rt (x / 4) = r at h1 h2 ⊢
      have e1 : (2 * r + 1) * (2 * r + 1) = 4 * (r * r) + 4 * r + 1 := by grind
      have e2 : (2 * r + 1 + 1) * (2 * r + 1 + 1) = 4 * (r * r) + 8 * r + 4 := by grind
      have e3 : 2 * r * (2 * r) = 4 * (r * r) := by grind
      have e4 : (r + 1) * (r + 1) = r * r + 2 * r + 1 := by grind
      rw [e4] at h2
      by_cases hc : (2 * r + 1) * (2 * r + 1) ≤ x
      · rw [if_pos hc, e2]
        refine ⟨hc, ?_⟩
        generalize r * r = q at h1 h2
        clear hc e1 e2 e3 e4
        omega
      · rw [if_neg hc, e3]
        rw [e1] at hc ⊢
        generalize r * r = q at h1 h2 hc ⊢
        clear e1 e2 e3 e4
        omega

theorem sq_le {a b : Nat} (h : a * a < (b + 1) * (b + 1)) : a ≤ b := by
  apply Nat.le_of_not_lt
  intro h1
  exact Nat.lt_irrefl _ (Nat.lt_of_lt_of_le h (Nat.mul_le_mul h1 h1))

theorem rt_eq {x s : Nat} (h1 : s * s ≤ x) (h2 : x < (s + 1) * (s + 1)) : s = rt x := by
  obtain ⟨r1, r2⟩ := rt_sp x
  exact Nat.le_antisymm (sq_le (Nat.lt_of_le_of_lt h1 r2)) (sq_le (Nat.lt_of_le_of_lt r1 h2))

theorem rt_le {x s : Nat} (h : s * s ≤ x) : s ≤ rt x := sq_le (Nat.lt_of_le_of_lt h (rt_sp x).2)

/-- Newton's next number is not below the root. -/
theorem newton_ge {x s r : Nat} (hs : 0 < s) (hr : r * r ≤ x) : r ≤ (s + x / s) / 2 := by
  have h : 2 * r ≤ s + x / s := by
    by_cases h1 : 2 * r ≤ s
    · exact Nat.le_trans h1 (Nat.le_add_right _ _)
    · have h2 : 2 * r - s ≤ x / s := by
        rw [Nat.le_div_iff_mul_le hs]
        refine Nat.le_trans ?_ hr
        obtain ⟨d, hd⟩ : ∃ d, 2 * r = s + d := ⟨2 * r - s, by omega⟩
        rw [hd, Nat.add_sub_cancel_left]
        rcases Nat.le_total s r with h3 | h3
        · obtain ⟨e, rfl⟩ : ∃ e, r = s + e := ⟨r - s, by omega⟩
          have : d = s + 2 * e := by omega
          subst this
          have e1 : (s + 2 * e) * s = s * s + 2 * (e * s) := by grind
          have e2 : (s + e) * (s + e) = s * s + 2 * (e * s) + e * e := by grind
          rw [e1, e2]
          exact Nat.le_add_right _ _
        · obtain ⟨e, rfl⟩ : ∃ e, s = r + e := ⟨s - r, by omega⟩
          have : r = d + e := by omega
          subst this
          have e1 : (d + e) * (d + e) = d * (d + e + e) + e * e := by grind
          rw [e1]
          exact Nat.le_add_right _ _
      omega
  omega

theorem newton_done {x s : Nat} (hs : 0 < s) (h : s ≤ (s + x / s) / 2) : s * s ≤ x := by
  have : s ≤ x / s := by
    generalize x / s = q at h
    omega
  exact (Nat.le_div_iff_mul_le hs).1 this

theorem cmp_ge' (x y : Nat) : cmp x y ≥ 0 ↔ y ≤ x := by
  have := cmp_neg x y
  constructor
  · intro h; exact Nat.le_of_not_lt (fun h1 => by have := this.2 h1; omega)
  · intro h; exact Int.le_of_not_gt (fun h1 => by have := this.1 h1; omega)

theorem Sqrt_l0 {a : List Int} {x n K : Nat} (ha : Nm a x n) (hx : x ≠ 0) (hn : n ≤ 1000) (hK : K ≤ 2000) :
    ∀ s : Nat, rt x ≤ s → s < 4294967296 ^ K → Ev (fun k => quo_Sqrt.l0 k a (dg s)) (dg (rt x), dg (x - rt x * rt x)) := by
  intro s
  induction s using Nat.strongRecOn with
  | _ s ih =>
  intro hs hsK
  obtain ⟨r1, r2⟩ := rt_sp x
  have hr0 : 0 < rt x := by
    apply Nat.pos_of_ne_zero
    intro h
    rw [h] at r2
    omega
  have hs0 : 0 < s := Nat.lt_of_lt_of_le hr0 hs
  have Ns : Nm (dg s) s K := Nm.of hsK
  have hD := DivMod_n ha Ns (Nat.le_trans hn (by decide)) (Nat.le_trans hK (by decide)) (Nat.ne_of_gt hs0)
  have Nq : Nm (dg (x / s)) (x / s) n := Nm.le ha (Nat.div_le_self _ _)
  have hA := Add_n Ns Nq (Nat.le_trans hK (by decide)) (Nat.le_trans hn (by decide))
  have NA : Nm (dg (s + x / s)) (s + x / s) 4000 := Nm.add Ns Nq (by clear hsK; omega) (by clear hsK; omega)
  have hS : Ev (fun k => nat_Shr.f k (dg (s + x / s)) 1) (dg ((s + x / s) / 2)) := Shr_n (s := 1) NA (by decide) (by decide)
  have NS : Nm (dg ((s + x / s) / 2)) ((s + x / s) / 2) 4000 := Nm.le NA (Nat.div_le_self _ _)
  have hC := Cmp_n NS Ns (by decide) (Nat.le_trans hK (by decide))
  have hge := newton_ge hs0 r1
  by_cases h : s ≤ (s + x / s) / 2
  · have hsq := newton_done hs0 h
    have hse : s = rt x := Nat.le_antisymm (rt_le hsq) hs
    have hM := Mul_n Ns Ns (Nat.le_trans hK (by decide)) (Nat.le_trans hK (by decide))
    have NM : Nm (dg (s * s)) (s * s) n := Nm.le ha hsq
    have hR := Sub_y ha NM (Nat.le_trans hn (by decide)) (Nat.le_trans hn (by decide)) hsq
    rw [← hse]
    clear hsK
    refine Ev.step (f := ?F) (fun k => ?_) ?_
    rotate_left
    · simp only [quo_Sqrt.l0]
      rfl
    refine Ev.bind (f := fun k t => _) hD (Ev.bind (f := fun k t => _) hA (Ev.bind (f := fun k t => _) hS (Ev.bind (f := fun k t => _) hC ?_)))
    refine Ev.ifp ((cmp_ge' _ _).2 h) ?_
    exact Ev.bind (f := fun k t => _) hM (Ev.bind (f := fun k t => _) hR (Ev.now _))
  · have hlt : (s + x / s) / 2 < s := Nat.lt_of_not_le h
    have hI := ih _ hlt hge (Nat.lt_trans hlt hsK)
    clear hsK
    refine Ev.step (f := ?G) (fun k => ?_) ?_
    rotate_left
    · simp only [quo_Sqrt.l0]
      rfl
    refine Ev.bind (f := fun k t => _) hD (Ev.bind (f := fun k t => _) hA (Ev.bind (f := fun k t => _) hS (Ev.bind (f := fun k t => _) hC ?_)))
    exact Ev.ifn (fun h1 => h ((cmp_ge' _ _).1 h1)) hI

theorem start_ge (x : Nat) : rt x ≤ 1 * 2 ^ ((bl x + 1) / 2) := by
  rw [Nat.one_mul]
  obtain ⟨r1, _⟩ := rt_sp x
  apply sq_le
  have h1 : x < 2 ^ bl x := bl_le.1 (Nat.le_refl _)
  have h2 : 2 ^ bl x ≤ 2 ^ ((bl x + 1) / 2) * 2 ^ ((bl x + 1) / 2) := by
    rw [← Nat.pow_add]
    exact Nat.pow_le_pow_right (by decide) (by omega)
  refine Nat.lt_of_le_of_lt r1 (Nat.lt_of_lt_of_le h1 (Nat.le_trans h2 ?_))
  exact Nat.mul_le_mul (Nat.le_succ _) (Nat.le_succ _)

theorem Sqrt_n {a : List Int} {x n : Nat} (ha : Nm a x n) (hn : n ≤ 1000) : Ev (fun k => quo_Sqrt.f k a) (dg (rt x), dg (x - rt x * rt x)) := by
  refine Ev.bind (f := fun k t => _) (Trim_n ha (Nat.le_trans hn (by decide))) ?_
  by_cases h : x = 0
  · subst h
    have e : rt 0 = 0 := by rw [rt]; rfl
    rw [e, Nat.mul_zero, Nat.sub_zero]
    exact Ev.ifp (by rw [dg_zero]; rfl) (Ev.eq (Ev.now _) (by rw [dg_zero]))
  · have hl : ¬ ((dg x).length : Int) = 0 := fun h1 => h (dg_length_zero.1 (by omega))
    have hb : bl x ≤ 32 * n := bl_le.2 (by have := ha.lt; rw [pow32] at this; exact this)
    have hbd := Bits_n ha.dg (Nat.le_trans hn (by decide))
    have ew : wrap64 (Int.tdiv (wrap64 ((bl x : Int) + 1)) 2) = (((bl x + 1) / 2 : Nat) : Int) := by
      rw [w64 (x := (bl x : Int) + 1) (by omega) (by omega)]
      have : Int.tdiv ((bl x : Int) + 1) 2 = (((bl x + 1) / 2 : Nat) : Int) := rfl
      rw [this, w64 (by omega) (by omega)]
    have one : Nm (dg 1) 1 1 := Nm.of (by decide)
    have hF : Ev (fun k => nat_From.f k 1) (dg 1) := From_sp (n := 1) (by decide) (by decide)
    have hS := Shl_n one (by decide) (show (bl x + 1) / 2 ≤ 100000 by omega)
    have NS : Nm (dg (1 * 2 ^ ((bl x + 1) / 2))) (1 * 2 ^ ((bl x + 1) / 2)) 2000 := (Nm.shl one).mono (by omega)
    have hI := Sqrt_l0 ha.dg h hn (by decide) _ (start_ge x) NS.lt
    refine Ev.ifn hl (Ev.bind (f := fun k t => _) hF (Ev.bind (f := fun k t => _) hbd ?_))
    rw [ew]
    exact Ev.bind (f := fun k t => _) hS hI

end Go.Proofs.Ytohkjfdcmiiehaa.Sp
