/- Plain facts on numbers, bits, bytes and words that the pure statements of this seat use; no program in sight. -/
import Derived.Test.YtibkbgaonjdpiaaWWordsS
import Derived.Test.YtibkbgaonjdpiaaWMoreS
namespace Go.Proofs.Ytibkbgaonjdpiaa.M
open Go Go.RowKit Go.Proofs.YtibkbgaonjdpiaaW.PrintWords Go.Proofs.YtibkbgaonjdpiaaW.PrintLast Go.Proofs.YtibkbgaonjdpiaaW.PrintMore
set_option linter.unusedVariables false
set_option linter.unusedSimpArgs false
theorem wf_u8 {x : Int} (h : (Lit.int .u8 x).wf = true) : 0 ≤ x ∧ x < 256 := by
  simp [Lit.wf, IntKind.min, IntKind.max, IntKind.signed, IntKind.bits] at h; omega
theorem w64 {x : Int} (h0 : -9223372036854775808 ≤ x) (h1 : x < 9223372036854775808) : wrap64 x = x := by unfold wrap64; omega
theorem wu_mod (x : Int) : IntKind.u64.wrap x = x % 18446744073709551616 := by
  simp [IntKind.wrap, IntKind.signed, IntKind.bits]
theorem wu {x : Int} (h0 : 0 ≤ x) (h1 : x < 18446744073709551616) : IntKind.u64.wrap x = x := by
  rw [wu_mod]; omega
theorem shl_nat (n : Nat) (y : Int) (h0 : 0 ≤ y) (h1 : y ≤ 64) : shl .u64 (n : Int) y = ((n <<< y.toNat % 18446744073709551616 : Nat) : Int) := by
  unfold shl
  rw [show (IntKind.u64.bits : Nat) = 64 from rfl, Nat.min_eq_left (by omega), Nat.shiftLeft_eq, wu_mod]
  simp
theorem ofInt_nat (n : Nat) : BitVec.ofInt 64 (n : Int) = BitVec.ofNat 64 n := by
  apply BitVec.eq_of_toNat_eq; simp
theorem bits_or (n m : Nat) (hn : n < 2 ^ 64) (hm : m < 2 ^ 64) : Go.bits .or .u64 (n : Int) (m : Int) = ((n ||| m : Nat) : Int) := by
  show IntKind.u64.wrap (((BitVec.ofInt 64 (n : Int)) ||| (BitVec.ofInt 64 (m : Int))).toNat : Int) = _
  rw [ofInt_nat, ofInt_nat]
  have h : (BitVec.ofNat 64 n ||| BitVec.ofNat 64 m).toNat = n ||| m := by
    rw [BitVec.toNat_or, BitVec.toNat_ofNat, BitVec.toNat_ofNat, Nat.mod_eq_of_lt hn, Nat.mod_eq_of_lt hm]
  rw [h]
  exact wu (by omega) (by have := Nat.or_lt_two_pow hn hm; omega)
theorem Ev.at {α : Type} {g : Nat → Option α} {r : α} (h : Ev g r) : ∃ K, ∀ j, g (K + j) = some r := by
  obtain ⟨K, hK⟩ := h
  exact ⟨K, fun j => hK _ (by omega)⟩
end Go.Proofs.Ytibkbgaonjdpiaa.M
