/- The streaming packer over bytes is the one over words. -/
import Derived.Test.YtibkbgaonjdpiaaPk9S
namespace Go.Proofs.Ytibkbgaonjdpiaa.Ps
open Go Go.RowKit Go.Proofs.Ytibkbgaonjdpiaa Go.Proofs.Ytibkbgaonjdpiaa.M Go.Proofs.YtibkbgaonjdpiaaW.PrintWords Go.Proofs.YtibkbgaonjdpiaaW.PrintLast Go.Proofs.YtibkbgaonjdpiaaW.PrintMore
set_option linter.unusedVariables false
set_option linter.unusedSimpArgs false
def toB (s : SW) : SB := ((s.1 : Int), bytesS s.2.1, s.2.2)
theorem openB_W (z : Nat) (r : List Int) : openB (z : Int) (bytesS r) = openW z r := by
  unfold openB openW
  by_cases hz : 0 < z
  · rw [if_pos (by omega), if_pos hz]
  · rw [if_neg (by omega), if_neg hz]
    cases r with
    | nil => rfl
    | cons x l =>
      have h8 := bs_length 8 x
      have hl : (bytesS (x :: l)).length = 8 * (l.length + 1) := by rw [bytesS_length, List.length_cons]
      have h1 : (bytesS (x :: l)).take 8 = bs 8 x := by rw [bytesS_cons, List.take_append_of_le_length (by omega), List.take_of_length_le (by omega)]
      have h2 : (bytesS (x :: l)).drop 8 = bytesS l := by rw [bytesS_cons, List.drop_append_of_le_length (by omega), List.drop_of_length_le (by omega), List.nil_append]
      have h3 : (((8 * (l.length + 1)) / 8 : Nat) : Int) - 1 = (l.length : Int) := by omega
      rw [h1, h2, hl, if_neg (by omega), h3]
      simp
theorem flushB_W (s : SW) : flushB (toB s) = toB (flushW s) := by
  unfold flushB flushW toB
  simp only [openB_W]
  rfl
theorem beginB_W (s : SW) (x : Int) : beginB (toB s) x = toB (beginW s x) := by
  unfold beginB beginW toB
  split
  · rfl
  · split
    · rfl
    · simp
theorem takeB_W (s : SW) (x : Int) : takeB (toB s) x = toB (takeW s x) := by
  unfold takeB takeW
  have e1 : (0 < (toB s).1 ∧ x = 0) ↔ (0 < s.1 ∧ x = 0) := by simp [toB]
  have e2 : (0 < (toB s).2.1.length ∧ denseS x = true) ↔ (0 < s.2.1.length ∧ denseS x = true) := by
    simp only [toB, bytesS_length]
    constructor
    · exact fun h => ⟨by omega, h.2⟩
    · exact fun h => ⟨by omega, h.2⟩
  by_cases c1 : 0 < s.1 ∧ x = 0
  · rw [if_pos (e1.mpr c1), if_pos c1]; simp [toB]
  · rw [if_neg (fun h => c1 (e1.mp h)), if_neg c1]
    by_cases c2 : 0 < s.2.1.length ∧ denseS x = true
    · rw [if_pos (e2.mpr c2), if_pos c2]; simp [toB, bytesS_append]
    · rw [if_neg (fun h => c2 (e2.mp h)), if_neg c2, flushB_W, beginB_W]
theorem wordB_W (s : SW) (x : Int) : wordB (toB s) x = toB (wordW s x) := by
  unfold wordB wordW
  rw [takeB_W]
  have e : (255 < (toB (takeW s x)).1 ∨ 2040 < (toB (takeW s x)).2.1.length) ↔ (255 < (takeW s x).1 ∨ 255 < (takeW s x).2.1.length) := by
    simp only [toB, bytesS_length]; omega
  by_cases c : 255 < (takeW s x).1 ∨ 255 < (takeW s x).2.1.length
  · rw [if_pos (e.mpr c), if_pos c, flushB_W]
  · rw [if_neg (fun h => c (e.mp h)), if_neg c]
theorem runB_W : ∀ (ws : List Int) (s : SW), runBB ws (toB s) = toB (runW ws s)
  | [], s => rfl
  | x :: ws, s => by
    show runBB ws (wordB (toB s) x) = toB (runW ws (wordW s x))
    rw [wordB_W, runB_W ws]
theorem wordW_W {s : SW} (h : IsW s.2.1) {x : Int} (h0 : 0 ≤ x) (h1 : x < 18446744073709551616) : IsW (wordW s x).2.1 := by
  have one : IsW [x] := IsW.cons h0 h1 IsW.nil
  have hb : ∀ s : SW, IsW s.2.1 → IsW (beginW s x).2.1 := fun s hs => by
    unfold beginW
    split
    · exact hs
    · split
      · exact one
      · exact hs
  have ht : IsW (takeW s x).2.1 := by
    unfold takeW
    split
    · exact h
    · split
      · exact h.append one
      · exact hb _ IsW.nil
  unfold wordW
  split
  · exact IsW.nil
  · exact ht
theorem runW_W : ∀ (ws : List Int) (s : SW), IsW s.2.1 → IsW ws → IsW (runW ws s).2.1
  | [], s, h, _ => h
  | x :: ws, s, h, hW => runW_W ws (wordW s x) (wordW_W h (hW x List.mem_cons_self).1 (hW x List.mem_cons_self).2) (fun y hy => hW y (List.mem_cons_of_mem _ hy))
theorem V_of_Inv {z : Nat} {r p : List Int} (h : Inv 255 z r) (hW : IsW r) (hp : p.length < 8) : validB p (z : Int) (bytesS r) = true := by
  have hl : (bytesS r).length = 8 * r.length := bytesS_length r
  have hz := h.zM
  have hr := h.rM
  have h1 : z = 0 ∨ r.length = 0 := by rcases h.one with e | e; · exact Or.inl e
                                       · exact Or.inr (by rw [e]; rfl)
  unfold validB
  rw [decide_eq_true (show (bytesS r).length % 8 = 0 ∧ (bytesS r).length / 8 ≤ 255 ∧ p.length < 8 ∧ 0 ≤ (z : Int) ∧ (z : Int) ≤ 255 ∧ ((z : Int) ≤ 0 ∨ (bytesS r).length / 8 = 0) by rw [hl]; omega), Bool.true_and, wordsS_bytesS r hW]
  unfold runB
  rw [List.all_eq_true.mpr h.d, Bool.true_and]
  cases r with
  | nil => rfl
  | cons x l => exact decide_eq_true (h.f x l rfl)
theorem Inv_of_V {z : Int} {r p : List Int} (hB : IsB r) (h : validB p z r = true) : ∃ (n : Nat) (rw : List Int), z = (n : Int) ∧ r = bytesS rw ∧ IsW rw ∧ Inv 255 n rw := by
  obtain ⟨hI, hR, h8, hp⟩ := validB_IB h
  have hz0 := hI.z0
  have hz1 := hI.z1
  have hrl := hI.rl
  have hl := wordsS_length r
  unfold runB at hR
  simp only [Bool.and_eq_true] at hR
  refine ⟨z.toNat, wordsS r, by omega, (bytesS_wordsS (r.length / 8) r (by omega) hB).symm, wordsS_W hB, ⟨?_, by omega, by omega, fun x hx => List.all_eq_true.mp hR.1 x hx, fun x l e => ?_⟩⟩
  · rcases hI.one with e | e
    · exact Or.inl (by omega)
    · exact Or.inr (List.length_eq_zero_iff.mp (by omega))
  · have h2 := hR.2
    rw [e] at h2
    simpa using h2
end Go.Proofs.Ytibkbgaonjdpiaa.Ps
