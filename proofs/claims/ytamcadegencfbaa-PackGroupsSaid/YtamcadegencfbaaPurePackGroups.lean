/- The law PackGroups: for every word and list of at most 600 words, the packed form begins with the tag of the first word; a word whose tag is neither 00 nor ff forms a group of its own, so that the packed form of the rest follows. -/
import Derived.Test.YtamcadegencfbaaQPackGroups
namespace Go.Proofs.Ytamcadegencfbaa.Pure
open Go Go.RowKit Go.Proofs.Ytamcadegencfbaa.M Go.Proofs.Ytamcadegencfbaa.PPackGroups Go.Proofs.YtamcadegencfbaaW.PrintWords Go.Proofs.YtamcadegencfbaaW.PrintLast Go.Proofs.YtamcadegencfbaaW.PrintMore Go.Proofs.Ytamcadegencfbaa.QPackGroups
set_option linter.unusedVariables false
set_option linter.unusedSimpArgs false
set_option maxRecDepth 10000

theorem g_j2t (w : Int) (l x : List Int) (hx : 2 ≤ x.length) : Ev (fun k => capnplaw21_PackGroups.j2 k w l x true) true := by
  refine Ev.step (fun k => by simp only [capnplaw21_PackGroups.j2]; rfl) (Ev.congr (fun k => if_pos (by simp)) ?_)
  rw [decide_eq_true (by omega)]; exact Ev.now _
theorem PackGroups : capnplaw21_PackGroups.Pure := by
  intro w l hw _ _ hl
  obtain ⟨w0, w1⟩ := wf_u64 hw
  have hL := isW_of hl
  have hW : IsW (w :: l) := IsW.cons w0 w1 hL
  apply Ev.rounds
  unfold capnplaw21_PackGroups.f
  refine Ev.bind awake21 (Ev.congr (fun k => if_pos (by simp)) ?_)
  by_cases h0 : (l.length : Int) > 600
  · rw [decide_eq_true h0]
    exact Ev.step (fun k => by simp only [capnplaw21_PackGroups.j0]; rfl) (Ev.bind awake21 (Ev.now _))
  · rw [decide_eq_false h0]
    refine Ev.step (fun k => by simp only [capnplaw21_PackGroups.j0]; rfl) (Ev.congr (fun k => if_neg (by simp)) ?_)
    simp only [Option.bind_some, List.length_cons, List.length_nil]
    refine Ev.congr (fun k => if_pos (by omega)) ?_
    have hlen := packS_length_le l
    have hp : ∃ q, packS (w :: l) = ofS w :: q ∧ (ofS w = 0 ∨ ofS w = 255 → 1 ≤ q.length) ∧ (ofS w ≠ 0 → ofS w ≠ 255 → q = nzS w ++ packS l) := by
      rw [packS_cons]
      by_cases e0 : ofS w = 0
      · rw [if_pos e0]; exact ⟨_, rfl, fun _ => by simp; omega, fun h => absurd e0 h⟩
      · rw [if_neg e0]
        by_cases e1 : ofS w = 255
        · rw [if_pos e1]; exact ⟨_, rfl, fun _ => by simp; omega, fun _ h => absurd e1 h⟩
        · rw [if_neg e1]; exact ⟨_, rfl, fun h => absurd h (by omega), fun _ _ => rfl⟩
    obtain ⟨q, hq, hq1, hq2⟩ := hp
    refine Ev.bind (packWords ([w] ++ l) hW (by first | (simp; done) | (simp; omega))) (Ev.bind (refOf w w0 w1) ?_)
    rw [List.singleton_append, hq]
    refine Ev.congr (fun k => if_neg (by first | (simp; done) | (simp; omega))) (Ev.congr (fun k => if_pos (by first | (simp; done) | (simp; omega))) ?_)
    rw [show (rd (ofS w :: q) 0 != ofS w) = false by simp [rd]]
    refine Ev.step (fun k => by simp only [capnplaw21_PackGroups.j1]; rfl) (Ev.congr (fun k => if_neg (by simp)) ?_)
    by_cases e0 : ofS w = 0
    · exact Ev.congr (fun k => if_pos e0) (g_j2t w l _ (by have := hq1 (Or.inl e0); simp; omega))
    · refine Ev.congr (fun k => if_neg e0) ?_
      by_cases e1 : ofS w = 255
      · rw [show (ofS w == 255) = true by simp [e1]]
        exact g_j2t w l _ (by have := hq1 (Or.inr e1); simp; omega)
      · rw [show (ofS w == 255) = false by simp [e1], hq2 e0 e1]
        have hz := nzS_length_le w
        have e2 : wrap64 (1 + ((nzS w).length : Int)) = ((1 + (nzS w).length : Nat) : Int) := by rw [w64 (by omega) (by omega)]; omega
        refine Ev.step (fun k => by simp only [capnplaw21_PackGroups.j2]; rfl) (Ev.congr (fun k => if_neg (by simp)) (Ev.bind (refTagBytes w w0 w1) ?_))
        rw [e2, Int.toNat_natCast]
        refine Ev.congr (fun k => if_neg (by first | (simp; done) | (simp; omega))) (Ev.congr (fun k => if_pos (by omega)) (Ev.congr (fun k => if_pos (by first | (simp; done) | (simp; omega))) ?_))
        have t1 : ((ofS w :: (nzS w ++ packS l)).take (1 + (nzS w).length)).drop 1 = nzS w := by
          rw [Nat.add_comm, List.take_succ_cons, List.drop_succ_cons, List.drop_zero, List.take_append_of_le_length (Nat.le_refl _), List.take_of_length_le (Nat.le_refl _)]
        have t2 : (ofS w :: (nzS w ++ packS l)).drop (1 + (nzS w).length) = packS l := by
          rw [Nat.add_comm, List.drop_succ_cons, List.drop_append_of_le_length (Nat.le_refl _), List.drop_of_length_le (Nat.le_refl _), List.nil_append]
        rw [t1, t2]
        refine Ev.bind (refSame _ _ (by omega)) (Ev.congr (fun k => if_pos (by simp)) (Ev.congr (fun k => if_pos (by omega)) (Ev.bind (packWords l hL (by omega)) (Ev.bind (refSame _ _ (by omega)) ?_))))
        simpa using Ev.now true
end Go.Proofs.Ytamcadegencfbaa.Pure
