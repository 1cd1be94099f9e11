/- The plain law of the document's own answer to chapter 1: the same numbers. -/
import Derived.Test.YtpodpfppbkjbcaaP4
import Derived.Test.YtpodpfppbkjbcaaSf
namespace Go.Proofs.Ytpodpfppbkjbcaa.Sp
open Go.RowKit Go.Proofs.Ytpodpfppbkjbcaa.P Go.Proofs.Ytpodpfppbkjbcaa.Num Go.Proofs.YtpodpfppbkjbcaaW.PrintWords Go.Proofs.YtpodpfppbkjbcaaW.PrintLast Go.Proofs.YtpodpfppbkjbcaaW.PrintMore

theorem rTrim_loop (l : List Int) (h : Dig l) (hl : l.length ≤ 1000000000) : ∀ n : Nat, n ≤ l.length → val (l.take n) = val l → Ev (fun k => astrolaberef01_Trim.l0 k l n) (dg (val l)) := by
  intro n
  induction n with
  | zero =>
    intro _ hv
    have h0 : val l = 0 := hv.symm
    refine Ev.step (f := fun _ => some []) (fun k => ?_) (Ev.eq (Ev.now _) (by rw [h0, dg_zero]))
    simp only [astrolaberef01_Trim.l0]
    rw [if_neg (by decide), if_pos (by decide), if_pos (by omega), if_pos (by simp)]
    rfl
  | succ n ih =>
    intro hn hv
    have hw : wrap64 (((n + 1 : Nat) : Int) - 1) = (n : Int) := by rw [w64] <;> omega
    by_cases h0 : l.getD n 0 = 0
    · have hv2 : val (l.take n) = val l := by
        rw [val_take_succ, h0] at hv
        rw [← hv]; rfl
      refine Ev.step (fun k => ?_) (ih (by omega) hv2)
      simp only [astrolaberef01_Trim.l0]
      rw [if_pos (by omega), hw, if_pos (by omega), if_pos (by omega), rd_nat, if_pos h0]
    · have hs : dg (val l) = l.take (n + 1) := by
        rw [← hv]
        refine dg_val ⟨Dig_take h _, .inr ?_⟩
        rw [List.length_take, Nat.min_eq_left hn, Nat.add_sub_cancel, List.getD_eq_getElem?_getD, List.getElem?_take, if_pos (by omega), ← List.getD_eq_getElem?_getD]
        exact h0
      have hlen : (l.take (n + 1)).length ≤ 1000000000 := by rw [List.length_take]; omega
      refine Ev.step (f := fun _ => some (l.take (n + 1))) (fun k => ?_) (Ev.eq (Ev.now _) hs.symm)
      simp only [astrolaberef01_Trim.l0]
      rw [if_pos (by omega), hw, if_pos (by omega), if_pos (by omega), rd_nat, if_neg h0, if_pos (by omega), if_pos (by omega), Int.toNat_natCast, if_pos (by rw [List.length_nil]; omega), List.nil_append]

theorem rTrim_sp {l : List Int} (h : Dig l) (hl : l.length ≤ 1000000000) : Ev (fun k => astrolaberef01_Trim.f k l) (dg (val l)) :=
  rTrim_loop l h hl l.length (Nat.le_refl _) (take_all_val l)

end Go.Proofs.Ytpodpfppbkjbcaa.Sp
