/- The packed encoding as plain lists: packing words, decoding bytes, and that decoding a packed form gives the words back; no program in sight. -/
import Derived.Test.YtpffoecblcfndaaDoorM4C
namespace Go.Proofs.YtpffoecblcfndaaDoor.M
open Go Go.RowKit Go.Proofs.YtpffoecblcfndaaDoorW.PrintWords Go.Proofs.YtpffoecblcfndaaDoorW.PrintLast Go.Proofs.YtpffoecblcfndaaDoorW.PrintMore
set_option linter.unusedVariables false
set_option linter.unusedSimpArgs false
theorem onesS_255 : onesS 255 = 8 := by decide
def decF : Nat → List Int → List Int × Bool
  | 0, _ => ([], true)
  | _ + 1, [] => ([], false)
  | k + 1, t :: p =>
    if t = 0 then
      match p with
      | [] => ([], true)
      | c :: q => (List.replicate (c.toNat + 1) 0 ++ (decF k q).1, (decF k q).2)
    else if p.length < onesS t then ([], true)
    else if t = 255 then
      match p.drop 8 with
      | [] => ([expS t p], true)
      | c :: q =>
        if q.length < 8 * c.toNat then (expS t p :: wordsS q, true)
        else (expS t p :: (wordsS (q.take (8 * c.toNat)) ++ (decF k (q.drop (8 * c.toNat))).1), (decF k (q.drop (8 * c.toNat))).2)
    else (expS t p :: (decF k (p.drop (onesS t))).1, (decF k (p.drop (onesS t))).2)
def decS (p : List Int) : List Int × Bool := decF (p.length + 1) p
theorem decF_fuel : ∀ (k : Nat) (p : List Int), p.length < k → decF k p = decS p := by
  have key : ∀ (n : Nat) (k j : Nat) (p : List Int), p.length ≤ n → p.length < k → p.length < j → decF k p = decF j p := by
    intro n
    induction n with
    | zero =>
      intro k j p hn hk hj
      have : p = [] := List.length_eq_zero_iff.mp (by omega)
      subst this
      obtain ⟨k, rfl⟩ : ∃ q, k = q + 1 := ⟨k - 1, by omega⟩
      obtain ⟨j, rfl⟩ : ∃ q, j = q + 1 := ⟨j - 1, by omega⟩
      rfl
    | succ n ih =>
      intro k j p hn hk hj
      obtain ⟨k, rfl⟩ : ∃ q, k = q + 1 := ⟨k - 1, by omega⟩
      obtain ⟨j, rfl⟩ : ∃ q, j = q + 1 := ⟨j - 1, by omega⟩
      cases p with
      | nil => rfl
      | cons t p =>
        simp only [List.length_cons] at hn hk hj
        simp only [decF]
        split
        · cases p with
          | nil => rfl
          | cons c q =>
            simp only [List.length_cons] at hn hk hj
            simp only []
            rw [ih k j q (by omega) (by omega) (by omega)]
        · split
          · rfl
          · split
            · cases hq : p.drop 8 with
              | nil => rfl
              | cons c q =>
                have hl : q.length + 1 ≤ p.length := by
                  have := congrArg List.length hq
                  rw [List.length_drop, List.length_cons] at this; omega
                simp only []
                rw [ih k j (q.drop (8 * c.toNat)) (by rw [List.length_drop]; omega) (by rw [List.length_drop]; omega) (by rw [List.length_drop]; omega)]
            · rw [ih k j (p.drop (onesS t)) (by rw [List.length_drop]; omega) (by rw [List.length_drop]; omega) (by rw [List.length_drop]; omega)]
  intro k p h
  exact key p.length k (p.length + 1) p (Nat.le_refl _) h (by omega)
theorem decS_nil : decS [] = ([], false) := rfl
theorem decS_zero (c : Int) (q : List Int) : decS (0 :: c :: q) = (List.replicate (c.toNat + 1) 0 ++ (decS q).1, (decS q).2) := by
  show decF (q.length + 1 + 1 + 1) (0 :: c :: q) = _
  simp only [decF, if_true]
  rw [decF_fuel _ q (by omega)]
theorem decS_zero_end : decS [0] = ([], true) := rfl
theorem decS_short {t : Int} {p : List Int} (h0 : t ≠ 0) (h : p.length < onesS t) : decS (t :: p) = ([], true) := by
  show decF (p.length + 1 + 1) (t :: p) = _
  simp only [decF, if_neg h0, if_pos h]
theorem decS_tag {t : Int} {p : List Int} (h0 : t ≠ 0) (h1 : t ≠ 255) (h : onesS t ≤ p.length) : decS (t :: p) = (expS t p :: (decS (p.drop (onesS t))).1, (decS (p.drop (onesS t))).2) := by
  show decF (p.length + 1 + 1) (t :: p) = _
  simp only [decF, if_neg h0, if_neg h1, if_neg (Nat.not_lt.mpr h)]
  rw [decF_fuel _ (p.drop (onesS t)) (by rw [List.length_drop]; omega)]
theorem decS_full_end {p : List Int} (h : p.length = 8) : decS (255 :: p) = ([expS 255 p], true) := by
  show decF (p.length + 1 + 1) (255 :: p) = _
  have e : p.drop 8 = [] := List.drop_of_length_le (by omega)
  have o : onesS 255 = 8 := by decide
  simp only [decF, if_neg (show ¬ (255 : Int) = 0 by decide), if_neg (show ¬ p.length < onesS 255 by omega), e, if_true]
theorem decS_full {p : List Int} {c : Int} {q : List Int} (h : p.length = 8) : decS (255 :: (p ++ c :: q)) = if q.length < 8 * c.toNat then (expS 255 p :: wordsS q, true) else (expS 255 p :: (wordsS (q.take (8 * c.toNat)) ++ (decS (q.drop (8 * c.toNat))).1), (decS (q.drop (8 * c.toNat))).2) := by
  show decF ((p ++ c :: q).length + 1 + 1) (255 :: (p ++ c :: q)) = _
  have e : (p ++ c :: q).drop 8 = c :: q := by rw [List.drop_append_of_le_length (by omega), List.drop_of_length_le (by omega), List.nil_append]
  have o : onesS 255 = 8 := by decide
  have hl : ¬ (p ++ c :: q).length < onesS 255 := by rw [List.length_append]; omega
  have h8 : onesF 8 255 = 8 := by decide
  have hx : expS 255 (p ++ c :: q) = expS 255 p := by rw [expS, expF_append 8 255 p (c :: q) (by omega)]; rfl
  simp only [decF, if_neg (show ¬ (255 : Int) = 0 by decide), if_neg hl, e, if_true, hx]
  rw [decF_fuel _ (q.drop (8 * c.toNat)) (by rw [List.length_drop, List.length_append, List.length_cons]; omega)]
end Go.Proofs.YtpffoecblcfndaaDoor.M
