/- Plain facts on tags: the tag of bytes, the non-zero bytes, expanding; no program in sight. -/
import Derived.Test.YtibkbgaonjdpiaaM3S
namespace Go.Proofs.Ytibkbgaonjdpiaa.M
open Go Go.RowKit Go.Proofs.YtibkbgaonjdpiaaW.PrintWords Go.Proofs.YtibkbgaonjdpiaaW.PrintLast Go.Proofs.YtibkbgaonjdpiaaW.PrintMore
set_option linter.unusedVariables false
set_option linter.unusedSimpArgs false
def tagL : List Int → Int
  | [] => 0
  | x :: l => (if x = 0 then 0 else 1) + 2 * tagL l
def nz (l : List Int) : List Int := l.filter (fun x => decide (x ≠ 0))
def ofS (w : Int) : Int := tagL (bs 8 w)
def nzS (w : Int) : List Int := nz (bs 8 w)
def onesF : Nat → Int → Nat
  | 0, _ => 0
  | n + 1, t => (t % 2).toNat + onesF n (t / 2)
def onesS (t : Int) : Nat := onesF 8 t
theorem nz_nil : nz [] = [] := rfl
theorem nz_cons (x : Int) (l : List Int) : nz (x :: l) = if x = 0 then nz l else x :: nz l := by
  simp only [nz, List.filter_cons]; by_cases h : x = 0 <;> simp [h]
theorem nz_append (l m : List Int) : nz (l ++ m) = nz l ++ nz m := by simp [nz]
theorem nz_length_le (l : List Int) : (nz l).length ≤ l.length := List.length_filter_le _ _
theorem nzS_length_le (w : Int) : (nzS w).length ≤ 8 := by
  have := nz_length_le (bs 8 w); rw [bs_length] at this; exact this
theorem tagL_nonneg : ∀ l, 0 ≤ tagL l
  | [] => by simp [tagL]
  | x :: l => by have := tagL_nonneg l; simp only [tagL]; split <;> omega
theorem tagL_lt : ∀ l : List Int, tagL l < 2 ^ l.length
  | [] => by simp [tagL]
  | x :: l => by
    have := tagL_lt l
    simp only [tagL, List.length_cons, Int.pow_succ]; split <;> omega
theorem tagL_append (l m : List Int) : tagL (l ++ m) = tagL l + 2 ^ l.length * tagL m := by
  induction l with
  | nil => simp [tagL]
  | cons x l ih =>
    simp only [List.cons_append, tagL, ih, List.length_cons, Int.pow_succ]
    rw [Int.mul_add, Int.add_assoc, Int.mul_comm (2 ^ l.length) 2, Int.mul_assoc]
theorem tagL_mod (x : Int) (l : List Int) : tagL (x :: l) % 2 = if x = 0 then 0 else 1 := by simp only [tagL]; split <;> omega
theorem tagL_div (x : Int) (l : List Int) : tagL (x :: l) / 2 = tagL l := by simp only [tagL]; split <;> omega
theorem onesF_tagL : ∀ l : List Int, onesF l.length (tagL l) = (nz l).length
  | [] => rfl
  | x :: l => by
    rw [List.length_cons, onesF, tagL_mod, tagL_div, onesF_tagL l, nz_cons]
    by_cases h : x = 0
    · simp [h]
    · simp [h]; omega
theorem ones_ofS (w : Int) : onesS (ofS w) = (nzS w).length := by
  have := onesF_tagL (bs 8 w)
  rwa [bs_length] at this
theorem ofS_range (w : Int) : 0 ≤ ofS w ∧ ofS w < 256 := by
  have h := tagL_lt (bs 8 w)
  rw [bs_length] at h
  exact ⟨tagL_nonneg _, h⟩
end Go.Proofs.Ytibkbgaonjdpiaa.M
