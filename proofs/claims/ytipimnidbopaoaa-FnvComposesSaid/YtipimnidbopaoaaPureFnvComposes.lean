/- The law FnvComposes: for every state and two byte sequences of at most 500 bytes, adding a concatenation is adding its parts one after the other, and the hash of a concatenation continues the hash of the first part. -/
import Derived.Test.YtipimnidbopaoaaQFnvComposes
namespace Go.Proofs.Ytipimnidbopaoaa.Pure
open Go Go.RowKit Go.Proofs.Ytipimnidbopaoaa.M Go.Proofs.Ytipimnidbopaoaa.PFnvComposes Go.Proofs.YtipimnidbopaoaaW.PrintWords Go.Proofs.YtipimnidbopaoaaW.PrintLast Go.Proofs.YtipimnidbopaoaaW.PrintMore Go.Proofs.Ytipimnidbopaoaa.QFnvComposes
set_option linter.unusedVariables false
set_option linter.unusedSimpArgs false
set_option maxRecDepth 10000

theorem FnvComposes : capnplaw18_FnvComposes.Pure := by
  intro s a b w0 _ _ ha _ _ hb
  have hs := wf_u64 w0
  have hA := isB_of ha
  have hB := isB_of hb
  apply Ev.rounds
  unfold capnplaw18_FnvComposes.f
  refine Ev.bind awake18 (Ev.congr (fun k => if_pos (by simp)) ?_)
  have yes : Ev (fun k => capnplaw18_FnvComposes.j0 k s a b true) true :=
    Ev.step (fun k => by simp only [capnplaw18_FnvComposes.j0]; rfl) (Ev.bind awake18 (Ev.now _))
  by_cases h0 : (a.length : Int) > 500
  · exact Ev.congr (fun k => if_pos h0) yes
  · refine Ev.congr (fun k => if_neg h0) ?_
    by_cases h2 : (b.length : Int) > 500
    · rw [decide_eq_true h2]; exact yes
    · rw [decide_eq_false h2]
      have hall : (a ++ b).length ≤ 140737488351232 := by rw [List.length_append]; omega
      refine Ev.step (fun k => by simp only [capnplaw18_FnvComposes.j0]; rfl) (Ev.congr (fun k => if_neg (by simp)) ?_)
      simp only [Option.bind_some, List.nil_append, List.length_nil]
      refine Ev.congr (fun k => if_pos (by omega)) (Ev.congr (fun k => if_pos (by omega)) ?_)
      refine Ev.bind (fnvAdd _ (hA.append hB) hall s hs) (Ev.bind (fnvAdd a hA (by omega) s hs) (Ev.bind (fnvAdd b hB (by omega) _ (fnvS_W a s hs)) (Ev.congr (fun k => if_pos (fnvS_append s a b)) ?_)))
      refine Ev.bind (fnvSum _ (hA.append hB) hall) (Ev.bind (fnvSum a hA (by omega)) (Ev.bind (fnvAdd b hB (by omega) _ (fnvS_W a _ (by decide))) (Ev.congr (fun k => if_pos (fnvS_append _ a b)) ?_)))
      refine Ev.bind (fnvAdd [] IsB.nil (by simp) s hs) ?_
      rw [fnvS_nil]
      simp only [beq_self_eq_true]
      exact Ev.now _
end Go.Proofs.Ytipimnidbopaoaa.Pure
