/- The law PackMatchesReference: for all lists of at most 600 words, byte slices of at most 2000 bytes and lengths, the functions of the package pack return what the reference returns. -/
import Derived.Test.YtamcadegencfbaaQPackMatchesReference
namespace Go.Proofs.Ytamcadegencfbaa.Pure
open Go Go.RowKit Go.Proofs.Ytamcadegencfbaa.M Go.Proofs.Ytamcadegencfbaa.PPackMatchesReference Go.Proofs.YtamcadegencfbaaW.PrintWords Go.Proofs.YtamcadegencfbaaW.PrintLast Go.Proofs.YtamcadegencfbaaW.PrintMore Go.Proofs.Ytamcadegencfbaa.QPackMatchesReference
set_option linter.unusedVariables false
set_option linter.unusedSimpArgs false
set_option maxRecDepth 10000

theorem PackMatchesReference : capnplaw21_PackMatchesReference.Pure := by
  intro l b n _ _ hl _ _ hb hn
  have hW := isW_of hl
  have hB := isB_of hb
  have hn := wf_u32 hn
  apply Ev.rounds
  unfold capnplaw21_PackMatchesReference.f
  refine Ev.bind awake21 (Ev.congr (fun k => if_pos (by simp)) ?_)
  have yes : Ev (fun k => capnplaw21_PackMatchesReference.j0 k l b n true) true :=
    Ev.step (fun k => by simp only [capnplaw21_PackMatchesReference.j0]; rfl) (Ev.bind awake21 (Ev.now _))
  by_cases h0 : (l.length : Int) > 600
  · exact Ev.congr (fun k => if_pos h0) yes
  · refine Ev.congr (fun k => if_neg h0) ?_
    by_cases h2 : (b.length : Int) > 2000
    · rw [decide_eq_true h2]; exact yes
    · rw [decide_eq_false h2]
      have hPB : ∃ x, Ev (fun k => pack_Bytes.f k b) x ∧ Ev (fun k => capnpref21_Bytes.f k b) x ∧ x.1.length ≤ 100000 := by
        by_cases h : b.length % 8 = 0
        · have := packS_length_le (wordsS b)
          rw [wordsS_length] at this
          exact ⟨_, packBytes_yes b hB (by omega) h, ref21Bytes_yes b hB (by omega) h, by simp only []; omega⟩
        · exact ⟨_, packBytes_no b h, ref21Bytes_no b h, by simp⟩
      obtain ⟨x, hx1, hx2, hx3⟩ := hPB
      have hlen := packS_length_le l
      refine Ev.step (fun k => by simp only [capnplaw21_PackMatchesReference.j0]; rfl) (Ev.congr (fun k => if_neg (by simp)) ?_)
      refine Ev.bind hx1 (Ev.bind hx2 (Ev.bind (packWords l hW (by omega)) (Ev.bind (ref21Words l hW (by omega)) (Ev.bind (refSame _ _ (by omega)) (Ev.congr (fun k => if_pos (by simp)) ?_)))))
      refine Ev.bind (refSame _ _ (by omega)) (Ev.congr (fun k => if_pos (by simp)) (Ev.congr (fun k => if_pos (by simp)) ?_))
      rw [w64 (x := n) (by omega) (by omega), packBound hn.1 (by omega), Int.tdiv_eq_ediv_of_nonneg hn.1, w64 (x := n / 8) (by omega) (by omega), w64 (x := n + n / 8) (by omega) (by omega), w64 (x := n + n / 8 + 2) (by omega) (by omega)]
      simp only [Option.bind_some, beq_self_eq_true]
      exact Ev.now _
end Go.Proofs.Ytamcadegencfbaa.Pure
