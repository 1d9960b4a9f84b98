/- Decoding a concatenation. -/
import Derived.Test.YtnchacmhjbkmhaaDoorSht2
namespace Go.Proofs.YtnchacmhjbkmhaaDoor.UnShortest
open Go Go.RowKit Go.Proofs.YtnchacmhjbkmhaaDoor.M Go.Proofs.YtnchacmhjbkmhaaDoor.Un Go.Proofs.YtnchacmhjbkmhaaDoorW.PrintWords Go.Proofs.YtnchacmhjbkmhaaDoorW.PrintLast Go.Proofs.YtnchacmhjbkmhaaDoorW.PrintMore
set_option linter.unusedVariables false
set_option linter.unusedSimpArgs false
set_option maxRecDepth 10000

theorem grpS_append {p : List Int} (q : List Int) (h0 : 0 < p.length) (h : (grpS p).2.2.2.2.2 = true) : grpS (p ++ q) = grpS p := by
  have r0 : rd (p ++ q) ((0 : Nat) : Int) = rd p ((0 : Nat) : Int) := rd_app q (by omega)
  rw [show ((0 : Nat) : Int) = 0 from rfl] at r0
  have hl : (p ++ q).length = p.length + q.length := List.length_append
  unfold grpS at h
  unfold grpS
  rw [r0, hl]
  by_cases t0 : rd p 0 = 0
  · rw [if_pos t0] at h
    rw [if_pos t0, if_pos t0]
    by_cases hs : p.length < 2
    · rw [if_pos hs] at h; exact absurd h (by simp)
    · rw [if_neg hs, if_neg (by omega), show rd (p ++ q) 1 = rd p 1 from rd_app q (j := 1) (by omega)]
  · rw [if_neg t0] at h
    rw [if_neg t0, if_neg t0]
    by_cases t1 : rd p 0 = 255
    · rw [if_pos t1] at h
      rw [if_pos t1, if_pos t1]
      by_cases hs : p.length < 10
      · rw [if_pos hs] at h; exact absurd h (by simp)
      · rw [if_neg hs] at h
        rw [if_neg hs, if_neg (by omega), show rd (p ++ q) 9 = rd p 9 from rd_app q (j := 9) (by omega)]
        have e := of_decide_eq_true h
        rw [decide_eq_true e, decide_eq_true (by omega : 10 + 8 * (1 + rd p 9 - 1) ≤ ((p.length + q.length : Nat) : Int))]
    · rw [if_neg t1] at h
      rw [if_neg t1, if_neg t1]
      by_cases hs : 1 + onesS (rd p 0) ≤ p.length
      · rw [if_pos hs, if_pos (by omega)]
      · rw [if_neg hs] at h; exact absurd h (by simp)
theorem decS_append (q : List Int) (hq : IsB q) : ∀ (n : Nat) (p : List Int), p.length ≤ n → IsB p → (decS p).2 = false → decS (p ++ q) = ((decS p).1 ++ (decS q).1, (decS q).2) := by
  intro n
  induction n with
  | zero =>
    intro p hn hB hd
    obtain rfl : p = [] := List.length_eq_zero_iff.mp (by omega)
    simp [decS_nil]
  | succ n ih =>
    intro p hn hB hd
    by_cases h0 : 0 < p.length
    · rcases grp_case hB h0 with ⟨tt, nn, W, e1, e2, e3, e4, e5, e6, e7, e8⟩ | ⟨_, e2⟩
      · have hg := grpS_append q h0 (by rw [e1])
        have hBq : IsB (p ++ q) := hB.append hq
        have h0q : 0 < (p ++ q).length := by rw [List.length_append]; omega
        rcases grp_case hBq h0q with ⟨t2, n2, W2, f1, f2, f3, f4, f5, f6, f7, f8⟩ | ⟨f1, _⟩
        · rw [hg, e1] at f1
          simp only [Prod.mk.injEq] at f1
          have et : t2 = tt := by omega
          subst et
          rw [List.take_append_of_le_length e3, e7] at f7
          obtain rfl : W = W2 := (Prod.mk.inj f7).1
          have hdd : (decS (p.drop t2)).2 = false := by rw [e8] at hd; exact hd
          have hi := ih (p.drop t2) (by rw [List.length_drop]; omega) (hB.drop _) hdd
          rw [f8, List.drop_append_of_le_length e3, hi, e8]
          simp only [List.append_assoc]
        · rw [hg, e1] at f1; exact absurd f1 (by simp)
      · rw [hd] at e2; exact absurd e2 (by decide)
    · obtain rfl : p = [] := List.length_eq_zero_iff.mp (by omega)
      simp [decS_nil]
end Go.Proofs.YtnchacmhjbkmhaaDoor.UnShortest
