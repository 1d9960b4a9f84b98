/- The law FnvMatchesReference: for every state, byte sequence of at most 1000 bytes and list of at most 100 words, the functions of the package fnv return what the reference returns. -/
import Derived.Test.YtipimnidbopaoaaQFnvMatchesReference
namespace Go.Proofs.Ytipimnidbopaoaa.Pure
open Go Go.RowKit Go.Proofs.Ytipimnidbopaoaa.M Go.Proofs.Ytipimnidbopaoaa.PFnvMatchesReference Go.Proofs.YtipimnidbopaoaaW.PrintWords Go.Proofs.YtipimnidbopaoaaW.PrintLast Go.Proofs.YtipimnidbopaoaaW.PrintMore Go.Proofs.Ytipimnidbopaoaa.QFnvMatchesReference
set_option linter.unusedVariables false
set_option linter.unusedSimpArgs false
set_option maxRecDepth 10000

theorem FnvMatchesReference : capnplaw18_FnvMatchesReference.Pure := by
  intro s b l w0 _ _ hb _ _ hl
  have hs := wf_u64 w0
  have hB := isB_of hb
  have hW := isW_of hl
  apply Ev.rounds
  unfold capnplaw18_FnvMatchesReference.f
  refine Ev.bind awake18 (Ev.congr (fun k => if_pos (by simp)) ?_)
  have yes : Ev (fun k => capnplaw18_FnvMatchesReference.j0 k s b l true) true :=
    Ev.step (fun k => by simp only [capnplaw18_FnvMatchesReference.j0]; rfl) (Ev.bind awake18 (Ev.now _))
  by_cases h0 : (b.length : Int) > 1000
  · exact Ev.congr (fun k => if_pos h0) yes
  · refine Ev.congr (fun k => if_neg h0) ?_
    by_cases h2 : (l.length : Int) > 100
    · rw [decide_eq_true h2]; exact yes
    · rw [decide_eq_false h2]
      refine Ev.step (fun k => by simp only [capnplaw18_FnvMatchesReference.j0]; rfl) (Ev.congr (fun k => if_neg (by simp)) ?_)
      refine Ev.bind (fnvAdd b hB (by omega) s hs) (Ev.bind (ref18Add b hB (by omega) s hs) (Ev.congr (fun k => if_pos (by simp)) ?_))
      refine Ev.bind (fnvSum b hB (by omega)) (Ev.bind (ref18Sum b hB (by omega)) (Ev.congr (fun k => if_pos (by simp)) ?_))
      refine Ev.bind (fnvWords l (by omega)) (Ev.bind (refBytes l hW (by omega)) (Ev.bind (ref18Sum _ (bytesS_B l) (by rw [bytesS_length]; omega)) ?_))
      simp only [beq_self_eq_true]
      exact Ev.now _
end Go.Proofs.Ytipimnidbopaoaa.Pure
