/- The law PackInjective: two lists of at most 2000 words have the same packed form exactly if they are equal. -/
import Derived.Test.YtamcadegencfbaaQPackInjective
namespace Go.Proofs.Ytamcadegencfbaa.Pure
open Go Go.RowKit Go.Proofs.Ytamcadegencfbaa.M Go.Proofs.Ytamcadegencfbaa.PPackInjective Go.Proofs.YtamcadegencfbaaW.PrintWords Go.Proofs.YtamcadegencfbaaW.PrintLast Go.Proofs.YtamcadegencfbaaW.PrintMore Go.Proofs.Ytamcadegencfbaa.QPackInjective
set_option linter.unusedVariables false
set_option linter.unusedSimpArgs false
set_option maxRecDepth 10000

theorem PackInjective : capnplaw21_PackInjective.Pure := by
  intro a b _ _ ha _ _ hb
  have hA := isW_of ha
  have hB := isW_of hb
  apply Ev.rounds
  unfold capnplaw21_PackInjective.f
  refine Ev.bind awake21 (Ev.congr (fun k => if_pos (by simp)) ?_)
  have yes : Ev (fun k => capnplaw21_PackInjective.j0 k a b true) true :=
    Ev.step (fun k => by simp only [capnplaw21_PackInjective.j0]; rfl) (Ev.bind awake21 (Ev.now _))
  by_cases h0 : (a.length : Int) > 2000
  · exact Ev.congr (fun k => if_pos h0) yes
  · refine Ev.congr (fun k => if_neg h0) ?_
    by_cases h2 : (b.length : Int) > 2000
    · rw [decide_eq_true h2]; exact yes
    · rw [decide_eq_false h2]
      have hlen := packS_length_le a
      refine Ev.step (fun k => by simp only [capnplaw21_PackInjective.j0]; rfl) (Ev.congr (fun k => if_neg (by simp)) ?_)
      refine Ev.bind (packWords a hA (by omega)) (Ev.bind (packWords b hB (by omega)) (Ev.bind (refSame _ _ (by omega)) (Ev.bind (refSameWords a b (by omega)) ?_)))
      have e : (decide (packS a = packS b) == decide (a = b)) = true := by
        rw [beq_iff_eq, decide_eq_decide]; exact packS_inj hA hB
      rw [e]; exact Ev.now _
end Go.Proofs.Ytamcadegencfbaa.Pure
