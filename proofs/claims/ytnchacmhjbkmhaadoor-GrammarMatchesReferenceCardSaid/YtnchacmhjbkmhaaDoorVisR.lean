/- The visits of package grammar's choices, as a list: size, number of words, how many. -/
import Derived.Test.YtnchacmhjbkmhaaDoorM6R
namespace Go.Proofs.YtnchacmhjbkmhaaDoor.Un
open Go Go.RowKit Go.Proofs.YtnchacmhjbkmhaaDoor.M Go.Proofs.YtnchacmhjbkmhaaDoorW.PrintWords Go.Proofs.YtnchacmhjbkmhaaDoorW.PrintLast Go.Proofs.YtnchacmhjbkmhaaDoorW.PrintMore
set_option linter.unusedVariables false
set_option linter.unusedSimpArgs false
set_option maxRecDepth 10000
def nextC (on i : Nat) (m : Int) : Int := IntKind.u64.wrap ((IntKind.u64.wrap (m * (8 - (on : Int) - (i : Int)))).tdiv ((i : Int) + 1))
def vis1 (on : Nat) : Nat → Nat → Int → List (Int × Nat × Int)
  | 0, _, _ => []
  | k + 1, i, m => if 0 < on + i then (1 + (on : Int) + (i : Int), 1, m) :: vis1 on k (i + 1) (nextC on i m) else vis1 on k (i + 1) (nextC on i m)
def vis2 (ws : List Int) : Nat → Nat → List (Int × Nat × Int)
  | 0, _ => []
  | k + 1, n => if rd ws ((n : Int) - 1) = 0 then (2, n, 1) :: vis2 ws k (n + 1) else []
def vis3 : Nat → Nat → List (Int × Nat × Int)
  | 0, _ => []
  | k + 1, n => (2 + 8 * (n : Int), n, 1) :: vis3 k (n + 1)
def vis (ws : List Int) : List (Int × Nat × Int) :=
  vis1 (onesS (ofS (rd ws 0))) (8 - onesS (ofS (rd ws 0))) 0 1 ++ (vis2 ws (min ws.length 256) 1 ++ vis3 (min ws.length 256) 1)
theorem vis1_pos (on : Nat) : ∀ (k i : Nat) (m : Int), ∀ v ∈ vis1 on k i m, v.2.1 = 1
  | 0, _, _, v, h => by simp [vis1] at h
  | k + 1, i, m, v, h => by
    rw [vis1] at h
    split at h
    · rcases List.mem_cons.mp h with rfl | h
      · rfl
      · exact vis1_pos on k _ _ v h
    · exact vis1_pos on k _ _ v h
theorem vis2_pos (ws : List Int) : ∀ (k n : Nat), ∀ v ∈ vis2 ws k n, n ≤ v.2.1 ∧ v.2.1 < n + k
  | 0, _, v, h => by simp [vis2] at h
  | k + 1, n, v, h => by
    rw [vis2] at h
    split at h
    · rcases List.mem_cons.mp h with rfl | h
      · exact ⟨Nat.le_refl _, by simp only []; omega⟩
      · have := vis2_pos ws k (n + 1) v h; omega
    · simp at h
theorem vis3_pos : ∀ (k n : Nat), ∀ v ∈ vis3 k n, n ≤ v.2.1 ∧ v.2.1 < n + k ∧ v.1 = 2 + 8 * (v.2.1 : Int)
  | 0, _, v, h => by simp [vis3] at h
  | k + 1, n, v, h => by
    rw [vis3] at h
    rcases List.mem_cons.mp h with rfl | h
    · exact ⟨Nat.le_refl _, by simp only []; omega, rfl⟩
    · have := vis3_pos k (n + 1) v h; omega
theorem vis_pos {ws : List Int} (h0 : 0 < ws.length) : ∀ v ∈ vis ws, 1 ≤ v.2.1 ∧ v.2.1 ≤ ws.length := by
  intro v h
  rcases List.mem_append.mp h with h | h
  · rw [vis1_pos _ _ _ _ v h]; omega
  · rcases List.mem_append.mp h with h | h
    · have := vis2_pos ws _ _ v h; omega
    · have := vis3_pos _ _ v h; omega
theorem rd_set_ne (S : List Int) (i j : Nat) (x : Int) (h : i ≠ j) : rd (S.set i x) (j : Int) = rd S (j : Int) := by
  simp [rd, List.getD_eq_getElem?_getD, List.getElem?_set_ne h]
theorem rd_set_eq (S : List Int) (i : Nat) (x : Int) (h : i < S.length) : rd (S.set i x) (i : Int) = x := by
  simp [rd, List.getD_eq_getElem?_getD, List.getElem?_set_self h]
theorem set_rd (S : List Int) (i : Nat) (h : i < S.length) : S.set i (rd S (i : Int)) = S := by
  apply List.ext_getElem?
  intro j
  by_cases e : i = j
  · subst e; rw [List.getElem?_set_self h, List.getElem?_eq_getElem h]; simp [rd, List.getD_eq_getElem?_getD, List.getElem?_eq_getElem h]
  · rw [List.getElem?_set_ne e]
end Go.Proofs.YtnchacmhjbkmhaaDoor.Un
