/- The law TagbyteRoundTrip: for every word and tail of at most 500 bytes, expanding the tag and the non-zero bytes of the word, followed by the tail, returns the word and consumes exactly these bytes; with one byte less it fails. -/
import Derived.Test.YtamcadegencfbaaQTagbyteRoundTrip
namespace Go.Proofs.Ytamcadegencfbaa.Pure
open Go Go.RowKit Go.Proofs.Ytamcadegencfbaa.M Go.Proofs.Ytamcadegencfbaa.PTagbyteRoundTrip Go.Proofs.YtamcadegencfbaaW.PrintWords Go.Proofs.YtamcadegencfbaaW.PrintLast Go.Proofs.YtamcadegencfbaaW.PrintMore Go.Proofs.Ytamcadegencfbaa.QTagbyteRoundTrip
set_option linter.unusedVariables false
set_option linter.unusedSimpArgs false
set_option maxRecDepth 10000

theorem nz_none {w : Int} (h0 : 0 ≤ w) (h1 : w < 18446744073709551616) (h : (nzS w).length = 0) : w = 0 := by
  have e : nzS w = [] := List.length_eq_zero_iff.mp h
  have z : ∀ l : List Int, nz l = [] → val l = 0 := by
    intro l
    induction l with
    | nil => intro _; rfl
    | cons x l ih =>
      intro hl
      rw [nz_cons] at hl
      by_cases hx : x = 0
      · rw [if_pos hx] at hl
        rw [val, ih hl, hx]; rfl
      · rw [if_neg hx] at hl; cases hl
  have := z _ e
  rwa [val_bs8 h0 h1] at this
theorem TagbyteRoundTrip : capnplaw20_TagbyteRoundTrip.Pure := by
  intro w b h0 _ _ hb
  obtain ⟨w0, w1⟩ := wf_u64 h0
  have hB := isB_of hb
  apply Ev.rounds
  unfold capnplaw20_TagbyteRoundTrip.f
  refine Ev.bind awake20 (Ev.congr (fun k => if_pos (by simp)) ?_)
  by_cases h : (b.length : Int) > 500
  · rw [decide_eq_true h]
    exact Ev.step (fun k => by simp only [capnplaw20_TagbyteRoundTrip.j0]; rfl) (Ev.bind awake20 (Ev.now _))
  · rw [decide_eq_false h]
    have ho := ofS_range w
    have hn := ones_ofS w
    have hl := nzS_length_le w
    have hx := tagExpand (ofS w) (nzS w ++ b) ho.1 ho.2 ((nzS_B w).append hB) (by rw [List.length_append]; omega)
    rw [if_pos (by rw [List.length_append]; omega), expS_of w0 w1] at hx
    refine Ev.step (fun k => by simp only [capnplaw20_TagbyteRoundTrip.j0]; rfl) (Ev.congr (fun k => if_neg (by simp)) ?_)
    refine Ev.bind (tagBytes w) (Ev.bind (tagOf w) ?_)
    rw [tagOnes ho.1 ho.2, hn]
    simp only [Option.bind_some, List.nil_append, List.length_nil]
    refine Ev.bind (tagOf w) (Ev.congr (fun k => if_pos (by omega)) (Ev.congr (fun k => if_pos (by omega)) ?_))
    refine Ev.bind hx (Ev.congr (fun k => if_pos (by simp)) (Ev.congr (fun k => if_pos (by simp)) (Ev.congr (fun k => if_pos (by simp)) (Ev.congr (fun k => if_pos (by simp [hn])) (Ev.bind (tagDense w) ?_)))))
    have e : (decide (7 ≤ (nzS w).length) != decide (((nzS w).length : Int) ≥ 7)) = false := by
      have : decide (((nzS w).length : Int) ≥ 7) = decide (7 ≤ (nzS w).length) := by simp only [decide_eq_decide]; omega
      rw [this, bne_self_eq_false]
    rw [e]
    refine Ev.step (fun k => by simp only [capnplaw20_TagbyteRoundTrip.j1]; rfl) (Ev.congr (fun k => if_neg (by simp)) ?_)
    by_cases hz : (nzS w).length = 0
    · refine Ev.congr (fun k => if_pos (by omega)) ?_
      rw [nz_none w0 w1 hz]
      exact Ev.now _
    · refine Ev.congr (fun k => if_neg (by omega)) (Ev.bind (tagOf w) ?_)
      rw [w64 (x := ((nzS w).length : Int) - 1) (by omega) (by omega)]
      have hy := tagExpand (ofS w) ((nzS w).take (((nzS w).length : Int) - 1).toNat) ho.1 ho.2 ((nzS_B w).take _) (by rw [List.length_take]; omega)
      rw [if_neg (by rw [List.length_take]; omega)] at hy
      exact Ev.congr (fun k => if_pos (by omega)) (Ev.congr (fun k => if_pos (by omega)) (Ev.bind hy (Ev.now _)))
end Go.Proofs.Ytamcadegencfbaa.Pure
