/- The law UnpackRoundTrip: unpacking the packed form returns the input if the limit is at least its length, and ErrLimit otherwise. -/
import Derived.Test.YtcdkgccmmfjnhaaDoorQUnpackRoundTrip
namespace Go.Proofs.YtcdkgccmmfjnhaaDoor.Pure
open Go Go.RowKit Go.Proofs.YtcdkgccmmfjnhaaDoor.M Go.Proofs.YtcdkgccmmfjnhaaDoor.PUnpackRoundTrip Go.Proofs.YtcdkgccmmfjnhaaDoorW.PrintWords Go.Proofs.YtcdkgccmmfjnhaaDoorW.PrintLast Go.Proofs.YtcdkgccmmfjnhaaDoorW.PrintMore Go.Proofs.YtcdkgccmmfjnhaaDoor.QUnpackRoundTrip
set_option linter.unusedVariables false
set_option linter.unusedSimpArgs false
set_option maxRecDepth 10000

theorem UnpackRoundTrip : capnplaw22_UnpackRoundTrip.Pure := by
  intro b a h1 h2 h3 h4
  have hB : IsB b := fun x hx => wf_u8 (h3 x hx)
  obtain ⟨a0, a1⟩ := wf_i64 h4
  apply Ev.rounds
  unfold capnplaw22_UnpackRoundTrip.f
  refine Ev.bind awake22 (Ev.congr (fun k => if_pos rfl) ?_)
  by_cases hl : (b.length : Int) > 3000
  · exact Ev.congr (fun k => if_pos hl) (Ev.step (fun k => by simp only [capnplaw22_UnpackRoundTrip.j0]; rfl) (Ev.bind awake22 (Ev.now _)))
  · refine Ev.congr (fun k => if_neg hl) ?_
    by_cases h8 : b.length % 8 = 0
    · have e8 : (((b.length : Int) % 8) != 0) = false := by rw [bne_eq_false_iff_eq]; omega
      rw [e8]
      have hW := wordsS_W hB
      have hwl := wordsS_length b
      have hpl := packS_length_le (wordsS b)
      have hbb : bytesS (wordsS b) = b := bytesS_wordsS (b.length / 8) b (by omega) hB
      have hu := unBytesE (packS_isB (wordsS b)) (by omega) a (by omega)
      rw [dec_packS hW] at hu
      refine Ev.step (fun k => by simp only [capnplaw22_UnpackRoundTrip.j0]; rw [if_neg (by simp)]) (Ev.bind (ref21Bytes_yes b hB (by omega) h8) ?_)
      by_cases hc : (max a 0 / 8).toNat < (wordsS b).length
      · simp only [if_pos hc] at hu
        refine Ev.bind hu (Ev.congr (fun k => if_pos (by omega)) (Ev.congr (fun k => if_neg (by omega)) (Ev.congr (fun k => if_pos rfl) (Ev.now _))))
      · simp only [if_neg hc, Bool.false_eq_true, if_false] at hu
        rw [hbb] at hu
        refine Ev.bind hu ?_
        by_cases ha : a < (b.length : Int)
        · refine Ev.congr (fun k => if_pos ha) (Ev.congr (fun k => if_pos (by omega)) ?_)
          rw [show ((b.length : Int) == 0) = true by rw [beq_iff_eq]; omega]
          exact Ev.now _
        · refine Ev.congr (fun k => if_neg ha) (Ev.congr (fun k => if_pos rfl) (Ev.bind (refSame b b (by omega)) ?_))
          rw [decide_eq_true rfl]
          exact Ev.now _
    · have e8 : (((b.length : Int) % 8) != 0) = true := by rw [bne_iff_ne]; omega
      rw [e8]
      exact Ev.step (fun k => by simp only [capnplaw22_UnpackRoundTrip.j0]; rfl) (Ev.bind awake22 (Ev.now _))
end Go.Proofs.YtcdkgccmmfjnhaaDoor.Pure
