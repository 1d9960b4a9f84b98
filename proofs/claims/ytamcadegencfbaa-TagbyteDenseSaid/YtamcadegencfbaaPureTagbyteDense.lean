/- The law TagbyteDense: a word is dense exactly if its tag has at least seven 1 bits; its non-zero bytes are as many as the 1 bits of its tag, and none of them is zero. -/
import Derived.Test.YtamcadegencfbaaQTagbyteDense
namespace Go.Proofs.Ytamcadegencfbaa.Pure
open Go Go.RowKit Go.Proofs.Ytamcadegencfbaa.M Go.Proofs.Ytamcadegencfbaa.PTagbyteDense Go.Proofs.YtamcadegencfbaaW.PrintWords Go.Proofs.YtamcadegencfbaaW.PrintLast Go.Proofs.YtamcadegencfbaaW.PrintMore Go.Proofs.Ytamcadegencfbaa.QTagbyteDense
set_option linter.unusedVariables false
set_option linter.unusedSimpArgs false
set_option maxRecDepth 10000

theorem d_loop (w : Int) (w0 : 0 ≤ w) (w1 : w < 18446744073709551616) : ∀ d i : Nat, i + d = (nzS w).length → Ev (fun k => capnplaw20_TagbyteDense.l0 k w (ofS w) (nzS w) (i : Int) (i : Int)) true := by
  intro d
  have hl := nzS_length_le w
  have ho := ofS_range w
  induction d with
  | zero =>
    intro i hi
    refine Ev.step (fun k => by simp only [capnplaw20_TagbyteDense.l0]; rw [if_neg (by omega)]) ?_
    refine Ev.bind (tagDense w) ?_
    rw [tagOnes ho.1 ho.2, ones_ofS]
    simp only [Option.bind_some]
    have e : decide (((nzS w).length : Int) ≥ 7) = decide (7 ≤ (nzS w).length) := by simp only [decide_eq_decide]; omega
    rw [e]
    refine Ev.congr (fun k => if_pos (by simp)) (Ev.congr (fun k => if_pos (by omega)) (Ev.congr (fun k => if_pos (by omega)) ?_))
    have e2 : ((ofS w == 0) == (w == 0)) = true := by
      have hz : ofS w = 0 ↔ w = 0 := by
        constructor
        · intro h
          have h1 := ones_ofS w
          rw [h] at h1
          have h2 : onesS 0 = 0 := by decide
          rw [h2] at h1
          have h3 := expS_of w0 w1 []
          have e3 : nzS w = [] := List.length_eq_zero_iff.mp h1.symm
          rw [h, e3] at h3
          rw [← h3]; decide
        · intro h; rw [h]; decide
      rw [beq_iff_eq, Bool.eq_iff_iff, beq_iff_eq, beq_iff_eq]
      exact hz
    rw [e2]; exact Ev.now _
  | succ d ih =>
    intro i hi
    have hne : rd (nzS w) (i : Int) ≠ 0 := by
      have hlt : i < (nzS w).length := by omega
      rw [rd_lt hlt]; exact nz_mem (List.getElem_mem hlt)
    refine Ev.step (fun k => by simp only [capnplaw20_TagbyteDense.l0]; rw [if_pos (show (i : Int) < ((nzS w).length : Int) by omega), if_pos (show 0 ≤ (i : Int) by omega), if_neg hne, wrap_succ i (by omega)]) (ih (i + 1) (by omega))
theorem TagbyteDense : capnplaw20_TagbyteDense.Pure := by
  intro w h0
  obtain ⟨w0, w1⟩ := wf_u64 h0
  apply Ev.rounds
  unfold capnplaw20_TagbyteDense.f
  refine Ev.bind awake20 (Ev.congr (fun k => if_pos (by simp)) (Ev.bind (tagOf w) (Ev.bind (tagBytes w) ?_)))
  exact d_loop w w0 w1 (nzS w).length 0 (by omega)
end Go.Proofs.Ytamcadegencfbaa.Pure
