/- The law TagbyteMatchesReference: for every word, tag and byte slice of at most 1000 bytes, the functions of the package tagbyte return what the reference returns. -/
import Derived.Test.YtamcadegencfbaaQTagbyteMatchesReference
namespace Go.Proofs.Ytamcadegencfbaa.Pure
open Go Go.RowKit Go.Proofs.Ytamcadegencfbaa.M Go.Proofs.Ytamcadegencfbaa.PTagbyteMatchesReference Go.Proofs.YtamcadegencfbaaW.PrintWords Go.Proofs.YtamcadegencfbaaW.PrintLast Go.Proofs.YtamcadegencfbaaW.PrintMore Go.Proofs.Ytamcadegencfbaa.QTagbyteMatchesReference
set_option linter.unusedVariables false
set_option linter.unusedSimpArgs false
set_option maxRecDepth 10000

theorem t_tail (w t : Int) (b : List Int) (hw : 0 ≤ w ∧ w < 18446744073709551616) (ht : 0 ≤ t ∧ t < 256) (hB : IsB b) (hb : b.length ≤ 1000) : Ev (fun k => capnplaw20_TagbyteMatchesReference.j0 k w t b false) true := by
  refine Ev.step (fun k => by simp only [capnplaw20_TagbyteMatchesReference.j0]; rfl) (Ev.congr (fun k => if_neg (by simp)) ?_)
  refine Ev.bind (tagExpand t b ht.1 ht.2 hB (by omega)) (Ev.bind (refExpand t b ht.1 ht.2 hB (by omega)) (Ev.bind (tagOf w) (Ev.bind (refOf w hw.1 hw.2) (Ev.congr (fun k => if_pos (by simp)) ?_))))
  refine Ev.bind (tagBytes w) (Ev.bind (refTagBytes w hw.1 hw.2) (Ev.bind (refSame _ _ (by have := nzS_length_le w; omega)) (Ev.congr (fun k => if_pos (by simp)) ?_)))
  rw [tagOnes ht.1 ht.2]
  simp only [Option.bind_some]
  refine Ev.bind (refOnes ht.1 ht.2) (Ev.congr (fun k => if_pos (by simp)) (Ev.bind (tagDense w) (Ev.bind (refDense w hw.1 hw.2) (Ev.congr (fun k => if_pos (by simp)) (Ev.congr (fun k => if_pos (by simp)) (Ev.congr (fun k => if_pos (by simp)) ?_))))))
  simp only [beq_self_eq_true]
  exact Ev.now _
theorem TagbyteMatchesReference : capnplaw20_TagbyteMatchesReference.Pure := by
  intro w t b h0 h1 _ _ hb
  apply Ev.rounds
  unfold capnplaw20_TagbyteMatchesReference.f
  refine Ev.bind awake20 (Ev.congr (fun k => if_pos (by simp)) ?_)
  by_cases h : (b.length : Int) > 1000
  · rw [decide_eq_true h]
    exact Ev.step (fun k => by simp only [capnplaw20_TagbyteMatchesReference.j0]; rfl) (Ev.bind awake20 (Ev.now _))
  · rw [decide_eq_false h]
    exact t_tail w t b (wf_u64 h0) (wf_u8 h1) (isB_of hb) (by omega)
end Go.Proofs.Ytamcadegencfbaa.Pure
