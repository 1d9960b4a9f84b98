/- The law WordKeeps: for byte slices of at most 1000 bytes and word lists of at most 200 words, Words and Bytes do not modify their arguments, and their results share no memory with them. -/
import Derived.Test.YtipimnidbopaoaaQWordKeeps
namespace Go.Proofs.Ytipimnidbopaoaa.Pure
open Go Go.RowKit Go.Proofs.Ytipimnidbopaoaa.M Go.Proofs.Ytipimnidbopaoaa.PWordKeeps Go.Proofs.YtipimnidbopaoaaW.PrintWords Go.Proofs.YtipimnidbopaoaaW.PrintLast Go.Proofs.YtipimnidbopaoaaW.PrintMore Go.Proofs.Ytipimnidbopaoaa.QWordKeeps
set_option linter.unusedVariables false
set_option linter.unusedSimpArgs false
set_option maxRecDepth 10000

theorem k_l1 (x0 x1 : List Int) (h0 : x0.length ≤ 1000) (h1 : x1.length ≤ 200) : ∀ d i : Nat, ∀ x9 : List Int, i + d = x9.length → x9.length ≤ 140737488351232 → Ev (fun k => capnplaw01_WordKeeps.l1 k x0 x1 x0 x1 x9 (i : Int)) true := by
  intro d
  induction d with
  | zero =>
    intro i x9 hi hl
    refine Ev.step (fun k => by simp only [capnplaw01_WordKeeps.l1]; rw [if_neg (by omega)]) ?_
    refine Ev.bind (refSame x0 x0 (by omega)) (Ev.congr (fun k => if_pos (by simp)) (Ev.bind (refSameWords x1 x1 (by omega)) ?_))
    simpa using Ev.now true
  | succ d ih =>
    intro i x9 hi hl
    refine Ev.step (fun k => by simp only [capnplaw01_WordKeeps.l1]; rw [if_pos (by omega), if_pos (by omega), w64 (by omega) (by omega), show (i : Int) + 1 = ((i + 1 : Nat) : Int) by omega]) ?_
    exact ih (i + 1) _ (by rw [List.length_set]; omega) (by rw [List.length_set]; omega)
theorem k_l0 (x0 x1 : List Int) (h0 : x0.length ≤ 1000) (h1 : x1.length ≤ 200) (x9 : List Int) (h9 : x9.length ≤ 140737488351232) : ∀ d i : Nat, ∀ x7 : List Int, i + d = x7.length → x7.length ≤ 140737488351232 → Ev (fun k => capnplaw01_WordKeeps.l0 k x0 x1 x0 x1 x7 x9 (i : Int)) true := by
  intro d
  induction d with
  | zero =>
    intro i x7 hi hl
    refine Ev.step (fun k => by simp only [capnplaw01_WordKeeps.l0]; rw [if_neg (by omega)]) ?_
    exact k_l1 x0 x1 h0 h1 x9.length 0 x9 (by omega) h9
  | succ d ih =>
    intro i x7 hi hl
    refine Ev.step (fun k => by simp only [capnplaw01_WordKeeps.l0]; rw [if_pos (by omega), if_pos (by omega), w64 (x := (i : Int) + 1) (by omega) (by omega), show (i : Int) + 1 = ((i + 1 : Nat) : Int) by omega]) ?_
    exact ih (i + 1) _ (by rw [List.length_set]; omega) (by rw [List.length_set]; omega)
theorem WordKeeps : capnplaw01_WordKeeps.Pure := by
  intro b l _ _ hb _ _ hw
  apply Ev.rounds
  unfold capnplaw01_WordKeeps.f
  refine Ev.bind awake01 (Ev.congr (fun k => if_pos (by simp)) ?_)
  have yes : Ev (fun k => capnplaw01_WordKeeps.j0 k b l true) true :=
    Ev.step (fun k => by simp only [capnplaw01_WordKeeps.j0]; rfl) (Ev.bind awake01 (Ev.now _))
  by_cases h0 : (b.length : Int) > 1000
  · exact Ev.congr (fun k => if_pos h0) yes
  · refine Ev.congr (fun k => if_neg h0) ?_
    by_cases h2 : (l.length : Int) > 200
    · rw [decide_eq_true h2]; exact yes
    · rw [decide_eq_false h2]
      have hB := isB_of hb
      refine Ev.step (fun k => by simp only [capnplaw01_WordKeeps.j0]; rfl) (Ev.congr (fun k => if_neg (by simp)) ?_)
      simp only [Option.bind_some, List.nil_append, List.length_nil]
      refine Ev.congr (fun k => if_pos (by omega)) (Ev.congr (fun k => if_pos (by omega)) ?_)
      obtain ⟨x, hx, hx1⟩ : ∃ x, Ev (fun k => word_Words.f k b) x ∧ x.1.length ≤ 1000 := by
        by_cases h : b.length % 8 = 0
        · exact ⟨_, wordWords_yes b hB (by omega) h, by simp only [wordsS_length]; omega⟩
        · exact ⟨_, wordWords_no b h, by simp⟩
      refine Ev.bind hx (Ev.bind (wordBytes l (by omega)) ?_)
      exact k_l0 b l (by omega) (by omega) _ (by rw [bytesS_length]; omega) x.1.length 0 x.1 (by omega) (by omega)
end Go.Proofs.Ytipimnidbopaoaa.Pure
