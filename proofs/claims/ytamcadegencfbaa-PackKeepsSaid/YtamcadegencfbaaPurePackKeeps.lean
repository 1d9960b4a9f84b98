/- The law PackKeeps: for lists of at most 2000 words and byte slices of at most 10000 bytes, packing does not modify its arguments, and its results share no memory with them. -/
import Derived.Test.YtamcadegencfbaaQPackKeeps
namespace Go.Proofs.Ytamcadegencfbaa.Pure
open Go Go.RowKit Go.Proofs.Ytamcadegencfbaa.M Go.Proofs.Ytamcadegencfbaa.PPackKeeps Go.Proofs.YtamcadegencfbaaW.PrintWords Go.Proofs.YtamcadegencfbaaW.PrintLast Go.Proofs.YtamcadegencfbaaW.PrintMore Go.Proofs.Ytamcadegencfbaa.QPackKeeps
set_option linter.unusedVariables false
set_option linter.unusedSimpArgs false
set_option maxRecDepth 10000

theorem k_l1 (x0 x1 : List Int) (h0 : x0.length ≤ 2000) (h1 : x1.length ≤ 10000) : ∀ d i : Nat, ∀ x8 : List Int, i + d = x8.length → x8.length ≤ 140737488351232 → Ev (fun k => capnplaw21_PackKeeps.l1 k x0 x1 x0 x1 x8 (i : Int)) true := by
  intro d
  induction d with
  | zero =>
    intro i x8 hi hl
    refine Ev.step (fun k => by simp only [capnplaw21_PackKeeps.l1]; rw [if_neg (by omega)]) ?_
    refine Ev.bind (refSameWords x0 x0 (by omega)) (Ev.congr (fun k => if_pos (by simp)) (Ev.bind (refSame x1 x1 (by omega)) ?_))
    simpa using Ev.now true
  | succ d ih =>
    intro i x8 hi hl
    refine Ev.step (fun k => by simp only [capnplaw21_PackKeeps.l1]; rw [if_pos (by omega), if_pos (by omega), w64 (x := (i : Int) + 1) (by omega) (by omega), show (i : Int) + 1 = ((i + 1 : Nat) : Int) by omega]) ?_
    exact ih (i + 1) _ (by rw [List.length_set]; omega) (by rw [List.length_set]; omega)
theorem k_l0 (x0 x1 : List Int) (h0 : x0.length ≤ 2000) (h1 : x1.length ≤ 10000) (x8 : List Int) (h8 : x8.length ≤ 140737488351232) : ∀ d i : Nat, ∀ x7 : List Int, i + d = x7.length → x7.length ≤ 140737488351232 → Ev (fun k => capnplaw21_PackKeeps.l0 k x0 x1 x0 x1 x7 x8 (i : Int)) true := by
  intro d
  induction d with
  | zero =>
    intro i x7 hi hl
    refine Ev.step (fun k => by simp only [capnplaw21_PackKeeps.l0]; rw [if_neg (by omega)]) ?_
    exact k_l1 x0 x1 h0 h1 x8.length 0 x8 (by omega) h8
  | succ d ih =>
    intro i x7 hi hl
    refine Ev.step (fun k => by simp only [capnplaw21_PackKeeps.l0]; rw [if_pos (by omega), if_pos (by omega), w64 (x := (i : Int) + 1) (by omega) (by omega), show (i : Int) + 1 = ((i + 1 : Nat) : Int) by omega]) ?_
    exact ih (i + 1) _ (by rw [List.length_set]; omega) (by rw [List.length_set]; omega)
theorem PackKeeps : capnplaw21_PackKeeps.Pure := by
  intro l b _ _ hl _ _ hb
  have hW := isW_of hl
  have hB := isB_of hb
  apply Ev.rounds
  unfold capnplaw21_PackKeeps.f
  refine Ev.bind awake21 (Ev.congr (fun k => if_pos (by simp)) ?_)
  have yes : Ev (fun k => capnplaw21_PackKeeps.j0 k l b true) true :=
    Ev.step (fun k => by simp only [capnplaw21_PackKeeps.j0]; rfl) (Ev.bind awake21 (Ev.now _))
  by_cases h0 : (l.length : Int) > 2000
  · exact Ev.congr (fun k => if_pos h0) yes
  · refine Ev.congr (fun k => if_neg h0) ?_
    by_cases h2 : (b.length : Int) > 10000
    · rw [decide_eq_true h2]; exact yes
    · rw [decide_eq_false h2]
      have hlen := packS_length_le l
      refine Ev.step (fun k => by simp only [capnplaw21_PackKeeps.j0]; rfl) (Ev.congr (fun k => if_neg (by simp)) ?_)
      simp only [Option.bind_some, List.nil_append, List.length_nil]
      refine Ev.congr (fun k => if_pos (by omega)) (Ev.congr (fun k => if_pos (by omega)) ?_)
      obtain ⟨x, hx, hx1⟩ : ∃ x, Ev (fun k => pack_Bytes.f k b) x ∧ x.1.length ≤ 100000 := by
        by_cases h : b.length % 8 = 0
        · have := packS_length_le (wordsS b)
          rw [wordsS_length] at this
          exact ⟨_, packBytes_yes b hB (by omega) h, by simp only []; omega⟩
        · exact ⟨_, packBytes_no b h, by simp⟩
      refine Ev.bind (packWords l hW (by omega)) (Ev.bind hx ?_)
      exact k_l0 l b (by omega) (by omega) _ (by omega) (packS l).length 0 _ (by omega) (by omega)
end Go.Proofs.Ytamcadegencfbaa.Pure
