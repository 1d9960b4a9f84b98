/- Plain facts on numbers, bits, bytes and words that the pure statements of this seat use; no program in sight. -/
import Derived.Test.YtpffoecblcfndaaDoorWWordsR
import Derived.Test.YtpffoecblcfndaaDoorWMoreR
namespace Go.Proofs.YtpffoecblcfndaaDoor.M
open Go Go.RowKit Go.Proofs.YtpffoecblcfndaaDoorW.PrintWords Go.Proofs.YtpffoecblcfndaaDoorW.PrintLast Go.Proofs.YtpffoecblcfndaaDoorW.PrintMore
set_option linter.unusedVariables false
set_option linter.unusedSimpArgs false
theorem wf_u8 {x : Int} (h : (Lit.int .u8 x).wf = true) : 0 ≤ x ∧ x < 256 := by
  simp [Lit.wf, IntKind.min, IntKind.max, IntKind.signed, IntKind.bits] at h; omega
theorem w64 {x : Int} (h0 : -9223372036854775808 ≤ x) (h1 : x < 9223372036854775808) : wrap64 x = x := by unfold wrap64; omega
theorem wu_mod (x : Int) : IntKind.u64.wrap x = x % 18446744073709551616 := by
  simp [IntKind.wrap, IntKind.signed, IntKind.bits]
theorem wu {x : Int} (h0 : 0 ≤ x) (h1 : x < 18446744073709551616) : IntKind.u64.wrap x = x := by
  rw [wu_mod]; omega
theorem shr_nat (n : Nat) (y : Int) (h0 : 0 ≤ y) (h1 : y ≤ 64) : shr .u64 (n : Int) y = ((n >>> y.toNat : Nat) : Int) := by
  unfold shr
  rw [show (IntKind.u64.bits : Nat) = 64 from rfl, Nat.min_eq_left (by omega), Nat.shiftRight_eq_div_pow]
  simp
theorem shl_nat (n : Nat) (y : Int) (h0 : 0 ≤ y) (h1 : y ≤ 64) : shl .u64 (n : Int) y = ((n <<< y.toNat % 18446744073709551616 : Nat) : Int) := by
  unfold shl
  rw [show (IntKind.u64.bits : Nat) = 64 from rfl, Nat.min_eq_left (by omega), Nat.shiftLeft_eq, wu_mod]
  simp
theorem ofInt_nat (n : Nat) : BitVec.ofInt 64 (n : Int) = BitVec.ofNat 64 n := by
  apply BitVec.eq_of_toNat_eq; simp
theorem bits_or (n m : Nat) (hn : n < 2 ^ 64) (hm : m < 2 ^ 64) : Go.bits .or .u64 (n : Int) (m : Int) = ((n ||| m : Nat) : Int) := by
  show IntKind.u64.wrap (((BitVec.ofInt 64 (n : Int)) ||| (BitVec.ofInt 64 (m : Int))).toNat : Int) = _
  rw [ofInt_nat, ofInt_nat]
  have h : (BitVec.ofNat 64 n ||| BitVec.ofNat 64 m).toNat = n ||| m := by
    rw [BitVec.toNat_or, BitVec.toNat_ofNat, BitVec.toNat_ofNat, Nat.mod_eq_of_lt hn, Nat.mod_eq_of_lt hm]
  rw [h]
  exact wu (by omega) (by have := Nat.or_lt_two_pow hn hm; omega)
theorem bits_and (n m : Nat) (hn : n < 2 ^ 64) (hm : m < 2 ^ 64) : Go.bits .and .u64 (n : Int) (m : Int) = ((n &&& m : Nat) : Int) := by
  show IntKind.u64.wrap (((BitVec.ofInt 64 (n : Int)) &&& (BitVec.ofInt 64 (m : Int))).toNat : Int) = _
  rw [ofInt_nat, ofInt_nat]
  have h : (BitVec.ofNat 64 n &&& BitVec.ofNat 64 m).toNat = n &&& m := by
    rw [BitVec.toNat_and, BitVec.toNat_ofNat, BitVec.toNat_ofNat, Nat.mod_eq_of_lt hn, Nat.mod_eq_of_lt hm]
  rw [h]
  exact wu (by omega) (by have := Nat.and_lt_two_pow n hm; omega)
theorem bits_andNot (n m : Nat) (hn : n < 2 ^ 64) (hm : m < 2 ^ 64) : ∃ r : Nat, Go.bits .andNot .u64 (n : Int) (m : Int) = (r : Int) ∧ r < 2 ^ 64 ∧ ∀ i, r.testBit i = (n.testBit i && !m.testBit i) := by
  refine ⟨(BitVec.ofNat 64 n &&& ~~~ BitVec.ofNat 64 m).toNat, ?_, BitVec.isLt _, fun i => ?_⟩
  · show IntKind.u64.wrap (((BitVec.ofInt 64 (n : Int)) &&& ~~~ (BitVec.ofInt 64 (m : Int))).toNat : Int) = _
    rw [ofInt_nat, ofInt_nat]
    exact wu (by omega) (by have := (BitVec.ofNat 64 n &&& ~~~ BitVec.ofNat 64 m).isLt; omega)
  · rw [BitVec.toNat_and, Nat.testBit_and, BitVec.toNat_ofNat, Nat.mod_eq_of_lt hn]
    by_cases hi : i < 64
    · have : (~~~ BitVec.ofNat 64 m).toNat.testBit i = !m.testBit i := by
        rw [BitVec.testBit_toNat, BitVec.getLsbD_not, ← BitVec.testBit_toNat, BitVec.toNat_ofNat, Nat.mod_eq_of_lt hm]
        simp [hi]
      rw [this]
    · have h1 : n.testBit i = false := Nat.testBit_lt_two_pow (Nat.lt_of_lt_of_le hn (Nat.pow_le_pow_right (by decide) (by omega)))
      simp [h1]
theorem Ev.at {α : Type} {g : Nat → Option α} {r : α} (h : Ev g r) : ∃ K, ∀ j, g (K + j) = some r := by
  obtain ⟨K, hK⟩ := h
  exact ⟨K, fun j => hK _ (by omega)⟩
theorem Ev.from_ {α : Type} {g : Nat → Option α} {r : α} (K : Nat) (h : ∀ j, g (K + j) = some r) : Ev g r :=
  ⟨K, fun k hk => by have := h (k - K); rwa [show K + (k - K) = k by omega] at this⟩
end Go.Proofs.YtpffoecblcfndaaDoor.M
