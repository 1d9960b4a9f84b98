/- The bytes that a tag selects lead back to the word. -/
import Derived.Test.YtnchacmhjbkmhaaDoorCntC
namespace Go.Proofs.YtnchacmhjbkmhaaDoor.Un
open Go Go.RowKit Go.Proofs.YtnchacmhjbkmhaaDoor.M Go.Proofs.YtnchacmhjbkmhaaDoorW.PrintWords Go.Proofs.YtnchacmhjbkmhaaDoorW.PrintLast Go.Proofs.YtnchacmhjbkmhaaDoorW.PrintMore
set_option linter.unusedVariables false
set_option linter.unusedSimpArgs false
set_option maxRecDepth 10000
def selF : Nat → Int → List Int → List Int
  | 0, _, _ => []
  | n + 1, t, b => if t % 2 = 1 then b.headD 0 :: selF n (t / 2) b.tail else selF n (t / 2) b.tail
theorem selF_length (n : Nat) : ∀ (t : Int) (b : List Int), 0 ≤ t → (selF n t b).length = onesF n t := by
  induction n with
  | zero => intro t b _; rfl
  | succ n ih =>
    intro t b h
    rw [selF, onesF]
    by_cases q : t % 2 = 1
    · rw [if_pos q, List.length_cons, ih _ _ (by omega)]; omega
    · rw [if_neg q, ih _ _ (by omega)]; omega
theorem tagL_cons (x : Int) (l : List Int) : tagL (x :: l) = (if x = 0 then 0 else 1) + 2 * tagL l := rfl
theorem exp_sel : ∀ (l : List Int) (t : Int), covF l.length t (tagL l) = true → expF l.length t (selF l.length t l) = l
  | [], t, _ => rfl
  | x :: l, t, h => by
    rw [List.length_cons, covF, tagL_cons] at h
    rw [List.length_cons, expF, selF]
    by_cases x0 : x = 0
    · rw [if_pos x0, if_neg (by omega), show (0 + 2 * tagL l) / 2 = tagL l by omega] at h
      have ih := exp_sel l (t / 2) h
      by_cases q : t % 2 = 1
      · rw [if_pos q, if_pos q]; simp only [List.headD_cons, List.tail_cons]; rw [ih]
      · rw [if_neg q, if_neg q]; simp only [List.tail_cons]; rw [ih, x0]
    · rw [if_neg x0, if_pos (by omega), show (1 + 2 * tagL l) / 2 = tagL l by omega] at h
      by_cases q0 : t % 2 = 0
      · rw [if_pos q0] at h; exact absurd h (by decide)
      · rw [if_neg q0] at h
        have ih := exp_sel l (t / 2) h
        have q : t % 2 = 1 := by omega
        rw [if_pos q, if_pos q]; simp only [List.headD_cons, List.tail_cons]; rw [ih]
theorem exp_sel_word {w t : Int} (h0 : 0 ≤ w) (h1 : w < 18446744073709551616) (h : covF 8 t (ofS w) = true) : expS t (selF 8 t (bs 8 w)) = w := by
  have hl := bs_length 8 w
  have := exp_sel (bs 8 w) t (by rw [hl]; exact h)
  rw [hl] at this
  unfold expS
  rw [this]
  exact val_bs8 h0 h1
end Go.Proofs.YtnchacmhjbkmhaaDoor.Un
