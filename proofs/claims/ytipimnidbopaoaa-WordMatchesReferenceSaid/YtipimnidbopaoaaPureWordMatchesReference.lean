/- The law WordMatchesReference: for every byte slice of at most 1000 bytes, index, word list of at most 200 words, words and bit field, the functions of the package word return what the reference returns. -/
import Derived.Test.YtipimnidbopaoaaQWordMatchesReference
namespace Go.Proofs.Ytipimnidbopaoaa.Pure
open Go Go.RowKit Go.Proofs.Ytipimnidbopaoaa.M Go.Proofs.Ytipimnidbopaoaa.PWordMatchesReference Go.Proofs.YtipimnidbopaoaaW.PrintWords Go.Proofs.YtipimnidbopaoaaW.PrintLast Go.Proofs.YtipimnidbopaoaaW.PrintMore Go.Proofs.Ytipimnidbopaoaa.QWordMatchesReference
set_option linter.unusedVariables false
set_option linter.unusedSimpArgs false
set_option maxRecDepth 10000

theorem m_tail (l0 : List Int) (a1 : Int) (l2 : List Int) (W V a5 a6 : Int) (hl0 : l0.length ≤ 1000) (hB : IsB l0) (hl2 : l2.length ≤ 200) (hW2 : IsW l2) (hW : 0 ≤ W ∧ W < 18446744073709551616) (hV : 0 ≤ V ∧ V < 18446744073709551616) (h5 : 0 ≤ a5 ∧ a5 < 256) (h6 : 0 ≤ a6 ∧ a6 < 256) :
    Ev (fun k => capnplaw01_WordMatchesReference.j0 k l0 a1 l2 W V a5 a6 false) true := by
  obtain ⟨W, rfl⟩ := Int.eq_ofNat_of_zero_le hW.1
  obtain ⟨V, rfl⟩ := Int.eq_ofNat_of_zero_le hV.1
  have hW' : W < 18446744073709551616 := by omega
  have hV' : V < 18446744073709551616 := by omega
  obtain ⟨at_, n, hP, hn0, hn1, han⟩ := refPlace a5 a6 h5.1 h5.2 h6.1 h6.2
  have hG : ∃ x, Ev (fun k => word_Get.f k l0 a1) x ∧ Ev (fun k => capnpref01_Get.f k l0 a1) x := by
    by_cases h : a1 < 0 ∨ (l0.length : Int) / 8 ≤ a1
    · exact ⟨_, wordGet_no l0 a1 (by omega) h, refGet_no l0 a1 (by omega) h⟩
    · obtain ⟨i, rfl⟩ := Int.eq_ofNat_of_zero_le (show 0 ≤ a1 by omega)
      exact ⟨_, wordGet_yes l0 hB i (by omega) (by omega), refGet_yes l0 hB i (by omega) (by omega)⟩
  have hWd : ∃ x, Ev (fun k => word_Words.f k l0) x ∧ Ev (fun k => capnpref01_Words.f k l0) x ∧ x.1.length ≤ 1000 := by
    by_cases h : l0.length % 8 = 0
    · exact ⟨_, wordWords_yes l0 hB (by omega) h, refWords_yes l0 hB (by omega) h, by simp only [wordsS_length]; omega⟩
    · exact ⟨_, wordWords_no l0 h, refWords_no l0 h, by simp⟩
  obtain ⟨g, hg1, hg2⟩ := hG
  obtain ⟨x, hx1, hx2, hx3⟩ := hWd
  obtain ⟨R, hR, hR1, hR2⟩ := wordInsert W at_ n V hW' hV' hn0 han
  obtain ⟨R', hR', hR1', hR2'⟩ := refInsert W at_ n V hW' hV' hn0 han
  have hRR : R = R' := Nat.eq_of_testBit_eq (fun i => by rw [hR2, hR2'])
  subst hRR
  refine Ev.step (fun k => by simp only [capnplaw01_WordMatchesReference.j0]; rfl) ?_
  refine Ev.bind hg1 (Ev.bind hg2 (Ev.bind hx1 (Ev.bind hx2 ?_)))
  simp only [hP, Option.bind_some]
  refine Ev.congr (fun k => if_pos (by simp)) (Ev.congr (fun k => if_pos (by simp)) (Ev.bind (refSameWords _ _ (by omega)) (Ev.congr (fun k => if_pos (by simp)) (Ev.congr (fun k => if_pos (by simp)) ?_))))
  refine Ev.bind (wordBytes l2 (by omega)) (Ev.bind (refBytes l2 hW2 (by omega)) (Ev.bind (refSame _ _ (by rw [bytesS_length]; omega)) (Ev.congr (fun k => if_pos (by simp)) ?_)))
  simp only [wordField W at_ n hW' hn0 han, wordSigned W at_ n hW' hn0 han, hR, Option.bind_some]
  refine Ev.bind (refField W at_ n hW' han) (Ev.congr (fun k => if_pos (by simp)) (Ev.bind (refSigned W at_ n hW' hn0 han) (Ev.congr (fun k => if_pos (by simp)) (Ev.bind hR' ?_))))
  simp only [beq_self_eq_true]
  exact Ev.now _
theorem WordMatchesReference : capnplaw01_WordMatchesReference.Pure := by
  intro l0 a1 l2 a3 a4 a5 a6 _ _ hb0 hi1 _ _ hw2 w3 w4 w5 w6
  apply Ev.rounds
  unfold capnplaw01_WordMatchesReference.f
  refine Ev.bind awake01 (Ev.congr (fun k => if_pos (by simp)) ?_)
  have yes : Ev (fun k => capnplaw01_WordMatchesReference.j0 k l0 a1 l2 a3 a4 a5 a6 true) true :=
    Ev.step (fun k => by simp only [capnplaw01_WordMatchesReference.j0]; rfl) (Ev.bind awake01 (Ev.now _))
  by_cases h0 : (l0.length : Int) > 1000
  · exact Ev.congr (fun k => if_pos h0) yes
  · refine Ev.congr (fun k => if_neg h0) ?_
    by_cases h2 : (l2.length : Int) > 200
    · rw [decide_eq_true h2]; exact yes
    · rw [decide_eq_false h2]
      exact m_tail l0 a1 l2 a3 a4 a5 a6 (by omega) (isB_of hb0) (by omega) (isW_of hw2) (wf_u64 w3) (wf_u64 w4) (wf_u8 w5) (wf_u8 w6)
end Go.Proofs.Ytipimnidbopaoaa.Pure
