/- Plain facts on tags: the tag of bytes, the non-zero bytes, expanding; no program in sight. -/
import Derived.Test.YtpffoecblcfndaaDoorM3R
namespace Go.Proofs.YtpffoecblcfndaaDoor.M
open Go Go.RowKit Go.Proofs.YtpffoecblcfndaaDoorW.PrintWords Go.Proofs.YtpffoecblcfndaaDoorW.PrintLast Go.Proofs.YtpffoecblcfndaaDoorW.PrintMore
set_option linter.unusedVariables false
set_option linter.unusedSimpArgs false
def onesF : Nat → Int → Nat
  | 0, _ => 0
  | n + 1, t => (t % 2).toNat + onesF n (t / 2)
def onesS (t : Int) : Nat := onesF 8 t
def expF : Nat → Int → List Int → List Int
  | 0, _, _ => []
  | n + 1, t, b => if t % 2 = 1 then b.headD 0 :: expF n (t / 2) b.tail else 0 :: expF n (t / 2) b
def expS (t : Int) (b : List Int) : Int := val (expF 8 t b)
theorem onesF_le (n : Nat) : ∀ t, onesF n t ≤ n := by
  induction n with
  | zero => intro t; simp [onesF]
  | succ n ih => intro t; have := ih (t / 2); simp only [onesF]; omega
theorem onesS_le (t : Int) : onesS t ≤ 8 := onesF_le 8 t
theorem expF_length (n : Nat) : ∀ t b, (expF n t b).length = n := by
  induction n with
  | zero => intro t b; rfl
  | succ n ih => intro t b; simp only [expF]; split <;> simp [ih]
theorem expF_B (n : Nat) : ∀ t b, IsB b → IsB (expF n t b) := by
  induction n with
  | zero => intro t b _; exact IsB.nil
  | succ n ih =>
    intro t b h
    simp only [expF]
    split
    · cases b with
      | nil => exact IsB.cons (by simp) (by simp) (ih _ _ IsB.nil)
      | cons x b => exact IsB.cons (h x List.mem_cons_self).1 (h x List.mem_cons_self).2 (ih _ _ (fun y hy => h y (List.mem_cons_of_mem _ hy)))
    · exact IsB.cons (by decide) (by decide) (ih _ _ h)
theorem expS_range {t : Int} {b : List Int} (h : IsB b) : 0 ≤ expS t b ∧ expS t b < 18446744073709551616 := val_lt8 (expF_B 8 t b h) (expF_length 8 t b)
theorem onesF_snoc (n : Nat) : ∀ t : Int, onesF (n + 1) t = onesF n t + (t / 2 ^ n % 2).toNat := by
  induction n with
  | zero => intro t; simp [onesF]
  | succ n ih =>
    intro t
    rw [onesF, ih, onesF, Int.ediv_ediv_of_nonneg (by decide), Int.pow_succ, Int.mul_comm (2 ^ n) 2]; omega
theorem drop_headD {b : List Int} {i : Nat} : (b.drop i).headD 0 = rd b (i : Int) := by
  simp [rd, List.headD_eq_head?_getD, List.head?_drop]
theorem expF_snoc (n : Nat) : ∀ (t : Int) (b : List Int), expF (n + 1) t b = expF n t b ++ [if t / 2 ^ n % 2 = 1 then rd b ((onesF n t : Nat) : Int) else 0] := by
  induction n with
  | zero =>
    intro t b
    simp only [expF, onesF, Int.pow_zero, Int.ediv_one, List.nil_append]
    split
    · rw [← drop_headD]; simp
    · rfl
  | succ n ih =>
    intro t b
    have e : t / 2 / 2 ^ n = t / 2 ^ (n + 1) := by rw [Int.ediv_ediv_of_nonneg (by decide), Int.pow_succ, Int.mul_comm]
    have s : ∀ m, expF (m + 1) t b = if t % 2 = 1 then b.headD 0 :: expF m (t / 2) b.tail else 0 :: expF m (t / 2) b := fun m => rfl
    have o : onesF (n + 1) t = (t % 2).toNat + onesF n (t / 2) := rfl
    rw [s (n + 1), s n, o]
    by_cases h : t % 2 = 1
    · rw [if_pos h, if_pos h, ih, e, List.cons_append, h, ← drop_headD, ← drop_headD, ← List.drop_one, List.drop_drop]
      rfl
    · rw [if_neg h, if_neg h, ih, e, List.cons_append, show t % 2 = 0 by omega]
      simp
end Go.Proofs.YtpffoecblcfndaaDoor.M
