/- Plain facts on bit fields of words; no program in sight. -/
import Derived.Test.YtcdkgccmmfjnhaaM2
namespace Go.Proofs.Ytcdkgccmmfjnhaa.M
open Go Go.RowKit Go.Proofs.YtcdkgccmmfjnhaaW.PrintWords Go.Proofs.YtcdkgccmmfjnhaaW.PrintLast Go.Proofs.YtcdkgccmmfjnhaaW.PrintMore
set_option linter.unusedVariables false
set_option linter.unusedSimpArgs false

/-- a bit field -/
def fieldS (W at_ n : Nat) : Nat := W / 2 ^ at_ % 2 ^ n
/-- its signed value -/
def sgnS (u n : Nat) : Int := if 2 ^ (n - 1) ≤ u then (u : Int) - 2 ^ n else (u : Int)
/-- the bits of a word after an insertion -/
def insB (W at_ n V i : Nat) : Bool := if at_ ≤ i ∧ i < at_ + n then V.testBit (i - at_) else W.testBit i

theorem mask_eq : ∀ n, n ≤ 64 → 18446744073709551615 >>> (64 - n) = 2 ^ n - 1 := by decide
theorem two_pow_le64 {n : Nat} (h : n ≤ 64) : 2 ^ n ≤ 18446744073709551616 := by
  have : 2 ^ n ≤ 2 ^ 64 := Nat.pow_le_pow_right (by decide) h
  exact this
theorem two_pow_lt64 {n : Nat} (h : n < 64) : 2 ^ n < 18446744073709551616 := by
  have : 2 ^ n < 2 ^ 64 := Nat.pow_lt_pow_right (by decide) h
  exact this
theorem field_lt (W at_ n : Nat) : fieldS W at_ n < 2 ^ n := Nat.mod_lt _ (Nat.two_pow_pos n)
theorem field_testBit (W at_ n i : Nat) : (fieldS W at_ n).testBit i = (decide (i < n) && W.testBit (at_ + i)) := by
  rw [fieldS, Nat.testBit_mod_two_pow, Nat.testBit_div_two_pow, Nat.add_comm]
theorem field_succ (W at_ j : Nat) : fieldS W at_ (j + 1) = fieldS W at_ j + 2 ^ j * (W / 2 ^ (at_ + j) % 2) := by
  rw [fieldS, Nat.mod_pow_succ, fieldS, Nat.div_div_eq_div_mul, ← Nat.pow_add]
theorem signed_core (W at_ n : Nat) (hn : 1 ≤ n) (h : at_ + n ≤ 64) : ∃ q P : Nat, W * 2 ^ (64 - at_ - n) % 18446744073709551616 = fieldS W at_ n * P + q ∧ q < P ∧ P = 2 ^ (64 - n) ∧ P * 2 ^ (n - 1) = 9223372036854775808 ∧ P * 2 ^ n = 18446744073709551616 := by
  have h64 : 2 ^ (64 - n) * 2 ^ n = 18446744073709551616 := by rw [← Nat.pow_add, show 64 - n + n = 64 by omega]
  have h63 : 2 ^ (64 - n) * 2 ^ (n - 1) = 9223372036854775808 := by rw [← Nat.pow_add, show 64 - n + (n - 1) = 63 by omega]
  have hs : 2 ^ (at_ + n) * 2 ^ (64 - at_ - n) = 18446744073709551616 := by rw [← Nat.pow_add, show at_ + n + (64 - at_ - n) = 64 by omega]
  refine ⟨W % 2 ^ at_ * 2 ^ (64 - at_ - n), 2 ^ (64 - n), ?_, ?_, rfl, h63, h64⟩
  · rw [← hs, Nat.mul_mod_mul_right]
    have e : W % 2 ^ (at_ + n) = 2 ^ at_ * fieldS W at_ n + W % 2 ^ at_ := by
      rw [Nat.pow_add, Nat.mod_mul, fieldS, Nat.add_comm]
    rw [e, Nat.add_mul, Nat.mul_comm (2 ^ at_), Nat.mul_assoc, ← Nat.pow_add, show at_ + (64 - at_ - n) = 64 - n by omega]
  · have : 2 ^ at_ * 2 ^ (64 - at_ - n) = 2 ^ (64 - n) := by rw [← Nat.pow_add, show at_ + (64 - at_ - n) = 64 - n by omega]
    rw [← this]
    exact Nat.mul_lt_mul_of_pos_right (Nat.mod_lt _ (Nat.two_pow_pos _)) (Nat.two_pow_pos _)
theorem signed_arith (u q P T H : Nat) (hq : q < P) (h63 : P * H = 9223372036854775808) (h64 : P * T = 18446744073709551616) (hu : u < T) :
    wrap64 ((u * P + q : Nat) : Int) / (P : Int) = if H ≤ u then (u : Int) - (T : Int) else (u : Int) := by
  have hP0 : (P : Int) ≠ 0 := by omega
  have hPu : u * P + P ≤ 18446744073709551616 := by
    have := Nat.mul_le_mul_right P hu
    rw [Nat.succ_mul, Nat.mul_comm T P, h64] at this
    exact this
  have h64' : (T : Int) * (P : Int) = 18446744073709551616 := by
    rw [← Int.natCast_mul, Nat.mul_comm, h64]; rfl
  have h3 : ((u * P + q : Nat) : Int) = (u : Int) * (P : Int) + (q : Int) := by rw [Int.natCast_add, Int.natCast_mul]
  have hz : (q : Int) / (P : Int) = 0 := Int.ediv_eq_zero_of_lt (by omega) (by omega)
  by_cases hs : H ≤ u
  · rw [if_pos hs]
    have h1 : 9223372036854775808 ≤ u * P := by
      have := Nat.mul_le_mul_right P hs
      rw [Nat.mul_comm H P, h63] at this
      exact this
    have e1 : wrap64 ((u * P + q : Nat) : Int) = (q : Int) + ((u : Int) - (T : Int)) * (P : Int) := by
      rw [Int.sub_mul, h64']
      generalize hU : u * P = U at *
      have h5 : (u : Int) * (P : Int) = (U : Int) := by rw [← hU, Int.natCast_mul]
      rw [h5]
      unfold wrap64
      omega
    rw [e1, Int.add_mul_ediv_right _ _ hP0, hz, Int.zero_add]
  · rw [if_neg hs]
    have h1 : u * P + P ≤ 9223372036854775808 := by
      have := Nat.mul_le_mul_right P (Nat.succ_le_of_lt (Nat.lt_of_not_le hs))
      rw [Nat.succ_mul, Nat.mul_comm H P, h63] at this
      exact this
    rw [w64 (by omega) (by omega), h3, Int.add_comm, Int.add_mul_ediv_right _ _ hP0, hz, Int.zero_add]
theorem signed_eq (W at_ n : Nat) (hn : 1 ≤ n) (h : at_ + n ≤ 64) : wrap64 ((W * 2 ^ (64 - at_ - n) % 18446744073709551616 : Nat) : Int) / ((2 ^ (64 - n) : Nat) : Int) = sgnS (fieldS W at_ n) n := by
  obtain ⟨q, P, e, hq, hP, h63, h64⟩ := signed_core W at_ n hn h
  rw [← hP, e, signed_arith _ q P (2 ^ n) (2 ^ (n - 1)) hq h63 h64 (field_lt W at_ n), sgnS, Int.natCast_pow]
  rfl
theorem bitdiv (X P : Nat) (hX : X < 18446744073709551616) : (Int.tmod (IntKind.u64.wrap (Int.tdiv (X : Int) (P : Int))) 2) = ((X / P % 2 : Nat) : Int) := by
  have hq := Nat.div_le_self X P
  rw [Int.tdiv_eq_ediv_of_nonneg (Int.natCast_nonneg X), ← Int.natCast_ediv]
  generalize X / P = q at *
  rw [wu (by omega) (by omega), Int.tmod_eq_emod_of_nonneg (by omega)]
  rfl
theorem wrap_succ (i : Nat) (h : i ≤ 140737488355328) : wrap64 ((i : Int) + 1) = ((i + 1 : Nat) : Int) := by rw [w64 (by omega) (by omega)]; omega
theorem two_pow_ne (j : Nat) : ¬ (((2 ^ j : Nat) : Int) = 0) := by have := Nat.two_pow_pos j; omega
theorem bit_step {acc i : Nat} {f : Nat → Bool} (h0 : acc < 2 ^ i) (h1 : ∀ j, j < i → acc.testBit j = f j) : acc + (f i).toNat * 2 ^ i < 2 ^ (i + 1) ∧ ∀ j, j < i + 1 → (acc + (f i).toNat * 2 ^ i).testBit j = f j := by
  rw [Nat.add_comm acc, Nat.mul_comm]
  refine ⟨?_, fun j hj => ?_⟩
  · have : (f i).toNat ≤ 1 := by cases f i <;> simp
    have h2 : 2 ^ i * (f i).toNat ≤ 2 ^ i * 1 := Nat.mul_le_mul_left _ this
    rw [Nat.pow_succ]; omega
  · rw [Nat.testBit_two_pow_mul_add _ h0]
    by_cases hlt : j < i
    · rw [if_pos hlt, h1 j hlt]
    · rw [if_neg hlt]
      obtain rfl : j = i := by omega
      rw [Nat.sub_self]
      cases f j <;> simp
end Go.Proofs.Ytcdkgccmmfjnhaa.M
