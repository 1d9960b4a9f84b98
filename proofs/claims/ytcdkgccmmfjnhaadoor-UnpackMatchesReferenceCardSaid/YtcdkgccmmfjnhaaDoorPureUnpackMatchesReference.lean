/- The law UnpackMatchesReference: for every byte sequence and limit, both functions return what the reference implementation returns. -/
import Derived.Test.YtcdkgccmmfjnhaaDoorQUnpackMatchesReference
namespace Go.Proofs.YtcdkgccmmfjnhaaDoor.Pure
open Go Go.RowKit Go.Proofs.YtcdkgccmmfjnhaaDoor.M Go.Proofs.YtcdkgccmmfjnhaaDoor.PUnpackMatchesReference Go.Proofs.YtcdkgccmmfjnhaaDoorW.PrintWords Go.Proofs.YtcdkgccmmfjnhaaDoorW.PrintLast Go.Proofs.YtcdkgccmmfjnhaaDoorW.PrintMore Go.Proofs.YtcdkgccmmfjnhaaDoor.QUnpackMatchesReference
set_option linter.unusedVariables false
set_option linter.unusedSimpArgs false
set_option maxRecDepth 10000

theorem UnpackMatchesReference : capnplaw22_UnpackMatchesReference.Pure := by
  intro p a h1 h2 h3 h4
  have hB : IsB p := fun x hx => wf_u8 (h3 x hx)
  obtain ⟨a0, a1⟩ := wf_i64 h4
  apply Ev.rounds
  unfold capnplaw22_UnpackMatchesReference.f
  refine Ev.bind awake22 (Ev.congr (fun k => if_pos rfl) ?_)
  by_cases hl : (p.length : Int) > 400
  · rw [decide_eq_true hl]
    exact Ev.step (fun k => by simp only [capnplaw22_UnpackMatchesReference.j0]; rfl) (Ev.bind awake22 (Ev.now _))
  · rw [decide_eq_false hl]
    have hb := bytesS_length (decS p).1
    have hlen := decS_len hB
    refine Ev.step (fun k => by simp only [capnplaw22_UnpackMatchesReference.j0]; rw [if_neg (by simp)]) ?_
    refine Ev.bind (unBytesE hB (by omega) a (by omega)) (Ev.bind (ref22Bytes hB (by omega) a (by omega) (by omega)) (Ev.bind (unPrefixE hB (by omega) a (by omega)) (Ev.bind (ref22Prefix hB (by omega) a (by omega) (by omega)) ?_)))
    refine Ev.bind (refSame _ _ ?_) ?_
    · split
      · simp
      · split
        · simp
        · show (bytesS (decS p).1).length ≤ _; omega
    rw [decide_eq_true rfl]
    refine Ev.congr (fun k => if_pos rfl) (Ev.congr (fun k => if_pos rfl) (Ev.bind (refSame _ _ (by show (bytesS _).length ≤ _; rw [bytesS_length, List.length_take]; omega)) ?_))
    rw [decide_eq_true rfl]
    refine Ev.congr (fun k => if_pos rfl) ?_
    rw [beq_self_eq_true]
    exact Ev.now _
end Go.Proofs.YtcdkgccmmfjnhaaDoor.Pure
