/- The packer's state after some bytes: one write after another. -/
import Derived.Test.YtibkbgaonjdpiaaPwS
namespace Go.Proofs.Ytibkbgaonjdpiaa.Ps
open Go Go.RowKit Go.Proofs.Ytibkbgaonjdpiaa Go.Proofs.Ytibkbgaonjdpiaa.M Go.Proofs.YtibkbgaonjdpiaaW.PrintWords Go.Proofs.YtibkbgaonjdpiaaW.PrintLast Go.Proofs.YtibkbgaonjdpiaaW.PrintMore
set_option linter.unusedVariables false
set_option linter.unusedSimpArgs false
def m8 (l : List Int) : Nat := l.length / 8 * 8
theorem wordsS_append {a b : List Int} (ha : IsB a) (hb : IsB b) (h8 : a.length % 8 = 0) (h8b : b.length % 8 = 0) : wordsS (a ++ b) = wordsS a ++ wordsS b := by
  have e1 := bytesS_wordsS (a.length / 8) a (by omega) ha
  have e2 := bytesS_wordsS (b.length / 8) b (by omega) hb
  have e : a ++ b = bytesS (wordsS a ++ wordsS b) := by rw [bytesS_append, e1, e2]
  rw [e, wordsS_bytesS _ ((wordsS_W ha).append (wordsS_W hb))]
theorem cut_both (a p b : List Int) (h8 : a.length % 8 = 0) : ((a ++ p) ++ b).take (m8 ((a ++ p) ++ b)) = a ++ (p ++ b).take (m8 (p ++ b)) ∧ ((a ++ p) ++ b).drop (m8 ((a ++ p) ++ b)) = (p ++ b).drop (m8 (p ++ b)) := by
  have e : m8 ((a ++ p) ++ b) = a.length + m8 (p ++ b) := by unfold m8; simp only [List.length_append]; omega
  rw [List.append_assoc] at e ⊢
  rw [e, List.take_append, List.drop_append]
  rw [List.take_of_length_le (by omega), List.drop_of_length_le (by omega), show a.length + m8 (p ++ b) - a.length = m8 (p ++ b) by omega, List.nil_append]
  exact ⟨rfl, rfl⟩
def partW (l : List Int) : List Int := l.drop (m8 l)
theorem m8_le (l : List Int) : m8 l ≤ l.length := by unfold m8; omega
theorem m8_mod (l : List Int) : m8 l % 8 = 0 := by unfold m8; omega
theorem partW_len (l : List Int) : (partW l).length < 8 := by unfold partW m8; rw [List.length_drop]; omega
theorem take_len (l : List Int) : (l.take (m8 l)).length = m8 l := by rw [List.length_take]; have := m8_le l; omega
end Go.Proofs.Ytibkbgaonjdpiaa.Ps
