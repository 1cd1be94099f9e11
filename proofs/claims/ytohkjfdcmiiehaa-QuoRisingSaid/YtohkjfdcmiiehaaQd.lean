/- Division by two digits or more, digit by digit. -/
import Derived.Test.YtohkjfdcmiiehaaP8
import Derived.Test.YtohkjfdcmiiehaaP9
import Derived.Test.YtohkjfdcmiiehaaP10
import Derived.Test.YtohkjfdcmiiehaaQc
namespace Go.Proofs.Ytohkjfdcmiiehaa.Sp
open Go.RowKit Go.Proofs.Ytohkjfdcmiiehaa.P Go.Proofs.Ytohkjfdcmiiehaa.Num Go.Proofs.YtohkjfdcmiiehaaW.PrintWords Go.Proofs.YtohkjfdcmiiehaaW.PrintLast Go.Proofs.YtohkjfdcmiiehaaW.PrintMore

theorem vtk (l : List Int) (h : Dig l) (n : Nat) : val (l.take n) = val l % 4294967296 ^ n := by
  by_cases hn : n ≤ l.length
  · have h1 := val_split l n
    rw [Nat.min_eq_left hn] at h1
    have h2 := val_lt (Dig_take h n)
    rw [List.length_take, Nat.min_eq_left hn] at h2
    rw [h1, Nat.add_mul_mod_self_left, Nat.mod_eq_of_lt h2]
  · rw [take_ge_val l (by omega), Nat.mod_eq_of_lt (Nat.lt_of_lt_of_le (val_lt h) (pow_le (by omega)))]

theorem seg_val {U : List Int} (hU : Dig U) {j h : Nat} (hW : val U < 4294967296 ^ h) : val ((U.take h).drop j) = val U / 4294967296 ^ j := by
  rw [val_drop _ (Dig_take hU h), vtk U hU, Nat.mod_eq_of_lt hW]

theorem take_at_sp {U b : List Int} (hU : Dig U) (hb : Dig b) {g j n : Nat} (hn : b.length = n) (hg : g < 4294967296) (hl : j + n + 1 ≤ U.length) (hlb : n ≤ 100000000) (hW : val U < 4294967296 ^ (j + n + 1)) :
    ∃ (R : List Int) (t : Nat), Ev (fun k => quo_take_at.f k U (j : Int) ((j + n + 1 : Nat) : Int) b (g : Int)) (decide (t = 1), U.take j ++ (R ++ U.drop (j + n + 1))) ∧ t ≤ 1 ∧ R.length = n + 1 ∧ Dig R ∧ val R + g * val b = val U / 4294967296 ^ j + 4294967296 ^ (n + 1) * t := by
  subst hn
  have hlen : ((U.take (j + b.length + 1)).drop j).length = b.length + 1 := by rw [List.length_drop, List.length_take]; omega
  obtain ⟨R, t, hE, h1, h2, h3, h4⟩ := take_sp (Dig_drop (Dig_take hU (j + b.length + 1)) j) hb hg hlen hlb
  rw [seg_val hU hW] at h4
  refine ⟨R, t, ?_, h1, h2, h3, h4⟩
  have hc : 0 ≤ (j : Int) ∧ (j : Int) < ((j + b.length + 1 : Nat) : Int) ∧ ((j + b.length + 1 : Nat) : Int) ≤ (U.length : Int) := by
    clear hW h4
    omega
  refine Ev.congr (fun k => ?_) (Ev.bind (f := fun _ (bt : Bool × List Int) => some (bt.1, U.take j ++ (bt.2 ++ U.drop (j + b.length + 1)))) hE (Ev.now _))
  unfold quo_take_at.f
  rw [if_pos hc, Int.toNat_natCast, Int.toNat_natCast]

theorem give_at_sp {X R Z b : List Int} (hR : Dig R) (hb : Dig b) {j n : Nat} (hX : X.length = j) (hn : b.length = n) (hl : R.length = n + 1) (hlb : n ≤ 100000000) :
    ∃ (R' : List Int) (t : Nat), Ev (fun k => quo_give_at.f k (X ++ (R ++ Z)) (j : Int) ((j + n + 1 : Nat) : Int) b) (X ++ (R' ++ Z)) ∧ t ≤ 1 ∧ R'.length = n + 1 ∧ Dig R' ∧ val R' + 4294967296 ^ (n + 1) * t = val R + val b := by
  subst hn hX
  obtain ⟨R', t, hE, h1, h2, h3, h4⟩ := give_sp hR hb hl hlb
  refine ⟨R', t, ?_, h1, h2, h3, h4⟩
  have e1 : ((X ++ (R ++ Z)).take (X.length + b.length + 1)).drop X.length = R := by
    rw [Nat.add_assoc, ← hl]
    simp [List.take_append, List.drop_append]
  have e2 : (X ++ (R ++ Z)).take X.length = X := by simp
  have e3 : (X ++ (R ++ Z)).drop (X.length + b.length + 1) = Z := by
    rw [Nat.add_assoc, ← hl]
    simp [List.drop_append]
  have hll : (X ++ (R ++ Z)).length = X.length + (R.length + Z.length) := by simp
  have hc : 0 ≤ (X.length : Int) ∧ (X.length : Int) < ((X.length + b.length + 1 : Nat) : Int) ∧ ((X.length + b.length + 1 : Nat) : Int) ≤ ((X ++ (R ++ Z)).length : Int) := by
    rw [hll]
    clear h4 e1 e2 e3
    omega
  refine Ev.congr (fun k => ?_) (Ev.bind (f := fun _ (bt : List Int) => some (X ++ (bt ++ Z))) hE (Ev.now _))
  unfold quo_give_at.f
  rw [if_pos hc, Int.toNat_natCast, Int.toNat_natCast, e1, e2, e3]

theorem take_fin0 {r q y u P t : Nat} (h : r + q * y = u + P * t) (hr : r < P) (hq : q * y ≤ u) (ht : t ≤ 1) : t = 0 ∧ r = u - q * y := by
  generalize q * y = x at *
  rcases (show t = 0 ∨ t = 1 by omega) with rfl | rfl <;> omega
theorem take_fin1 {r r2 q y u P t t2 : Nat} (h : r + (q + 1) * y = u + P * t) (hq : q * y ≤ u) (hq1 : u < (q + 1) * y) (ht : t ≤ 1) (hy : y ≤ P) (h2 : r2 + P * t2 = r + y) (hr2 : r2 < P) (ht2 : t2 ≤ 1) : t = 1 ∧ r2 = u - q * y := by
  rw [Nat.add_mul, Nat.one_mul] at h hq1
  generalize q * y = x at *
  rcases (show t = 0 ∨ t = 1 by omega) with rfl | rfl <;> rcases (show t2 = 0 ∨ t2 = 1 by omega) with rfl | rfl <;> omega

theorem long_ix2 {n j : Nat} (hn1 : n ≤ 100000000) (hj : j ≤ 100000000) : wrap64 (wrap64 ((j : Int) + (n : Int)) + 1) = ((j + n + 1 : Nat) : Int) ∧ wrap64 ((j : Int) - 1) = (j : Int) - 1 := by
  refine ⟨?_, w64 (by omega) (by omega)⟩
  rw [w64 (x := (j : Int) + (n : Int)) (by omega) (by omega), w64 (by omega) (by omega)]
  omega

theorem tk_len {U : List Int} {j n : Nat} (hl : j + n + 1 ≤ U.length) : (U.take j).length = j := by rw [List.length_take]; omega
theorem tk_len2 {U R : List Int} {j n : Nat} (hl : j + n + 1 ≤ U.length) (hR : R.length = n + 1) : (U.take j ++ (R ++ U.drop (j + n + 1))).length = U.length := by
  rw [List.length_append, List.length_append, tk_len hl, hR, List.length_drop]
  omega
theorem one_of {q g : Nat} (h1 : q ≤ g) (h2 : g ≤ q + 1) : g = q ∨ g = q + 1 := by omega
theorem div_rest (s y : Nat) : s - s / y * y = s % y := by
  have := Nat.div_add_mod s y
  rw [Nat.mul_comm] at this
  generalize s / y * y = x at this ⊢
  generalize s % y = z at this ⊢
  omega
theorem less_one {q g : Nat} (hg : g < 4294967296) (h : g = q + 1) : IntKind.u64.wrap ((g : Int) - 1) % 4294967296 = (q : Int) := by
  rw [u64 (by omega) (by omega)]
  omega
theorem same_mod {g : Nat} (hg : g < 4294967296) : (g : Int) % 4294967296 = (g : Int) := by omega

theorem long_j3 {b Q U : List Int} {sh : Int} {n j g : Nat} {r : List Int × List Int × Bool} (hU : Dig U) (hb : Dig b) (hbl : b.length = n) (hn1 : n ≤ 100000000) (hj1 : j ≤ 100000000) (hl : j + n + 1 ≤ U.length) (hjQ : j < Q.length)
    (hy : val b < 4294967296 ^ n) (hy0 : 0 < val b) (hW : val U < 4294967296 ^ (j + n + 1)) (h1 : val U / 4294967296 ^ j / val b ≤ g) (h2 : g ≤ val U / 4294967296 ^ j / val b + 1) (hg : g < 4294967296)
    (hnext : ∀ U' : List Int, U'.length = U.length → Dig U' → val U' = val U % (4294967296 ^ j * val b) → Ev (fun k => quo_long.l0 k b (Q.set j ((val U / 4294967296 ^ j / val b : Nat) : Int)) sh n U' ((j : Int) - 1)) r) :
    Ev (fun k => quo_long.j3 k b Q sh n U j g) r := by
  obtain ⟨R, t, hT, ht, hRl, hRd, hR⟩ := take_at_sp hU hb hbl hg hl hn1 hW
  obtain ⟨w1, w2⟩ := long_ix2 hn1 hj1
  have hXl := tk_len hl
  have hRlt := val_lt hRd
  rw [hRl] at hRlt
  have hq0 : val U / 4294967296 ^ j / val b * val b ≤ val U / 4294967296 ^ j := Nat.div_mul_le_self _ _
  have hq1 : val U / 4294967296 ^ j < (val U / 4294967296 ^ j / val b + 1) * val b := by
    rw [Nat.mul_comm]; exact Nat.lt_mul_div_succ _ hy0
  have hmod := div_rest (val U / 4294967296 ^ j) (val b)
  have hyP : val b ≤ 4294967296 ^ (n + 1) := Nat.le_trans (Nat.le_of_lt hy) (pow_le (Nat.le_succ n))
  have hZ : val (U.drop (j + n + 1)) = 0 := by rw [val_drop U hU, Nat.div_eq_of_lt hW]
  have hval : ∀ R' : List Int, R'.length = n + 1 → val R' = val U / 4294967296 ^ j % val b → val (U.take j ++ (R' ++ U.drop (j + n + 1))) = val U % (4294967296 ^ j * val b) := by
    intro R' hl' hv'
    rw [val_parts hXl hl', hZ, Nat.mul_zero, Nat.add_zero, hv', vtk U hU, Nat.mod_mul]
  have hlen : ∀ R' : List Int, R'.length = n + 1 → (U.take j ++ (R' ++ U.drop (j + n + 1))).length = U.length := fun R' hl' => tk_len2 hl hl'
  have hdig : ∀ R' : List Int, Dig R' → Dig (U.take j ++ (R' ++ U.drop (j + n + 1))) := fun R' h => Dig_append.2 ⟨Dig_take hU _, Dig_append.2 ⟨h, Dig_drop hU _⟩⟩
  have i1 : (0 : Int) ≤ (j : Int) := Int.natCast_nonneg _
  have i2 : (j : Int) < (Q.length : Int) := Int.ofNat_lt.2 hjQ
  rcases one_of h1 h2 with hgq | hgq
  · rw [hgq] at hR
    obtain ⟨rfl, hr⟩ := take_fin0 hR hRlt hq0 ht
    rw [hmod] at hr
    have hK := hnext _ (hlen R hRl) (hdig R hRd) (hval R hRl hr)
    rw [← hgq] at hK
    clear hR hRlt hq0 hq1 hmod hyP hZ hval hW hy hr
    refine Ev.step (f := ?F) (fun k => ?_) ?_
    rotate_left
    · simp only [quo_long.j3]
      rw [w1, w2, Int.toNat_natCast]
    refine Ev.bind (f := fun k t => _) hT ?_
    refine Ev.ifn (by simp) (Ev.ifp i1 (Ev.ifp i2 ?_))
    rw [same_mod hg]
    exact hK
  · rw [hgq] at hR
    obtain ⟨R2, t2, hT2, ht2, hR2l, hR2d, hR2⟩ := give_at_sp (X := U.take j) (Z := U.drop (j + n + 1)) hRd hb hXl hbl hRl hn1
    have hR2lt := val_lt hR2d
    rw [hR2l] at hR2lt
    obtain ⟨rfl, hr⟩ := take_fin1 hR hq0 hq1 ht hyP hR2 hR2lt ht2
    rw [hmod] at hr
    have hK := hnext _ (hlen R2 hR2l) (hdig R2 hR2d) (hval R2 hR2l hr)
    have hg1 := less_one hg hgq
    rw [← hg1] at hK
    clear hR hRlt hq0 hq1 hmod hyP hZ hval hW hy hr hR2 hR2lt
    refine Ev.step (f := ?G) (fun k => ?_) ?_
    rotate_left
    · simp only [quo_long.j3]
      rw [w1, w2, Int.toNat_natCast]
    refine Ev.bind (f := fun k t => _) hT (Ev.ifp (by simp) (Ev.bind (f := fun k t => _) hT2 ?_))
    exact Ev.ifp i1 (Ev.ifp i2 hK)

end Go.Proofs.Ytohkjfdcmiiehaa.Sp
