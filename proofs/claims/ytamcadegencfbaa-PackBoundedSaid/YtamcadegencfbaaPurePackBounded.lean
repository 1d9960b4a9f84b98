/- The law PackBounded: for byte slices of at most 5000 bytes, the packed form of n bytes has at most n + n/8 + 2 bytes; Words and Bytes agree; only lengths that are multiples of 8 are accepted. -/
import Derived.Test.YtamcadegencfbaaQPackBounded
namespace Go.Proofs.Ytamcadegencfbaa.Pure
open Go Go.RowKit Go.Proofs.Ytamcadegencfbaa.M Go.Proofs.Ytamcadegencfbaa.PPackBounded Go.Proofs.YtamcadegencfbaaW.PrintWords Go.Proofs.YtamcadegencfbaaW.PrintLast Go.Proofs.YtamcadegencfbaaW.PrintMore Go.Proofs.Ytamcadegencfbaa.QPackBounded
set_option linter.unusedVariables false
set_option linter.unusedSimpArgs false
set_option maxRecDepth 10000

theorem PackBounded : capnplaw21_PackBounded.Pure := by
  intro b _ _ hb
  have hB := isB_of hb
  apply Ev.rounds
  unfold capnplaw21_PackBounded.f
  refine Ev.bind awake21 (Ev.congr (fun k => if_pos (by simp)) ?_)
  by_cases h0 : (b.length : Int) > 5000
  · rw [decide_eq_true h0]
    exact Ev.step (fun k => by simp only [capnplaw21_PackBounded.j0]; rfl) (Ev.bind awake21 (Ev.now _))
  · rw [decide_eq_false h0]
    refine Ev.step (fun k => by simp only [capnplaw21_PackBounded.j0]; rfl) (Ev.congr (fun k => if_neg (by simp)) ?_)
    by_cases h : b.length % 8 = 0
    · have hlen := packS_length_le (wordsS b)
      have hwl := wordsS_length b
      rw [hwl] at hlen
      refine Ev.bind (packBytes_yes b hB (by omega) h) (Ev.bind (refWords_yes b hB (by omega) h) (Ev.congr (fun k => if_pos (by simp)) (Ev.congr (fun k => if_pos (by simp)) ?_)))
      rw [packBound (by omega) (by omega)]
      simp only [Option.bind_some]
      refine Ev.congr (fun k => if_pos (by omega)) (Ev.bind (packWords _ (wordsS_W hB) (by omega)) (Ev.bind (refSame _ _ (by omega)) (Ev.congr (fun k => if_pos (by simp)) ?_)))
      have e : (((packS (wordsS b)).length : Int) == 0) = ((b.length : Int) == 0) := by
        rw [Bool.eq_iff_iff, beq_iff_eq, beq_iff_eq]
        constructor
        · intro h1
          cases hw : wordsS b with
          | nil => rw [hw, List.length_nil] at hwl; omega
          | cons w l =>
            rw [hw, packS_cons] at h1
            split at h1
            · simp at h1; omega
            · split at h1
              · simp at h1; omega
              · simp at h1; omega
        · intro h1
          have : wordsS b = [] := List.length_eq_zero_iff.mp (by omega)
          rw [this, packS_nil]; rfl
      rw [e, beq_self_eq_true]; exact Ev.now _
    · refine Ev.bind (packBytes_no b h) (Ev.bind (refWords_no b h) (Ev.congr (fun k => if_neg (by simp)) (Ev.congr (fun k => if_neg (by simp)) (Ev.congr (fun k => if_pos (by simp)) (Ev.now _)))))
end Go.Proofs.Ytamcadegencfbaa.Pure
