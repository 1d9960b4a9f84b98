/- Plain facts on FNV-1a: one step, many steps, no two states or bytes lead to one; no program in sight. -/
import Derived.Test.YtipimnidbopaoaaM4
namespace Go.Proofs.Ytipimnidbopaoaa.M
open Go Go.RowKit Go.Proofs.YtipimnidbopaoaaW.PrintWords Go.Proofs.YtipimnidbopaoaaW.PrintLast Go.Proofs.YtipimnidbopaoaaW.PrintMore
set_option linter.unusedVariables false
set_option linter.unusedSimpArgs false
/-- one byte -/
def stepS (s c : Int) : Int := (((s.toNat ^^^ c.toNat) * 1099511628211 % 18446744073709551616 : Nat) : Int)
def fnvS (s : Int) (b : List Int) : Int := b.foldl stepS s
theorem stepS_W (s c : Int) : 0 ≤ stepS s c ∧ stepS s c < 18446744073709551616 := by unfold stepS; omega
theorem fnvS_W : ∀ (b : List Int) (s : Int), (0 ≤ s ∧ s < 18446744073709551616) → 0 ≤ fnvS s b ∧ fnvS s b < 18446744073709551616
  | [], s, h => h
  | c :: b, s, _ => fnvS_W b _ (stepS_W s c)
theorem fnvS_append (s : Int) (a b : List Int) : fnvS s (a ++ b) = fnvS (fnvS s a) b := by simp [fnvS]
theorem fnvS_nil (s : Int) : fnvS s [] = s := rfl
theorem fnvS_cons (s c : Int) (b : List Int) : fnvS s (c :: b) = fnvS (stepS s c) b := rfl
theorem mul_inj {a b : Nat} (ha : a < 18446744073709551616) (hb : b < 18446744073709551616) (h : a * 1099511628211 % 18446744073709551616 = b * 1099511628211 % 18446744073709551616) : a = b := by
  have e : ∀ x : Nat, x < 18446744073709551616 → (x * 1099511628211 % 18446744073709551616) * 14886173955864302971 % 18446744073709551616 = x := by
    intro x hx
    rw [Nat.mod_mul_mod, Nat.mul_assoc, show 1099511628211 * 14886173955864302971 = 1 + 18446744073709551616 * 887285111055 from by decide, Nat.mul_add, Nat.mul_one, ← Nat.mul_assoc, Nat.mul_comm x 18446744073709551616, Nat.mul_assoc, Nat.add_mul_mod_self_left, Nat.mod_eq_of_lt hx]
  rw [← e a ha, ← e b hb, h]
theorem xor_cancel_right {a b c : Nat} (h : a ^^^ c = b ^^^ c) : a = b := by
  have : (a ^^^ c) ^^^ c = (b ^^^ c) ^^^ c := by rw [h]
  rwa [Nat.xor_assoc, Nat.xor_assoc, Nat.xor_self, Nat.xor_zero, Nat.xor_zero] at this
theorem xor_lt64 {a c : Nat} (ha : a < 18446744073709551616) (hc : c < 256) : a ^^^ c < 18446744073709551616 :=
  Nat.xor_lt_two_pow (n := 64) ha (by omega)
theorem stepS_inj {s t c d : Int} (hs : 0 ≤ s ∧ s < 18446744073709551616) (ht : 0 ≤ t ∧ t < 18446744073709551616) (hc : 0 ≤ c ∧ c < 256) (hd : 0 ≤ d ∧ d < 256) (h : stepS s c = stepS t d) : s.toNat ^^^ c.toNat = t.toNat ^^^ d.toNat :=
  mul_inj (xor_lt64 (by omega) (by omega)) (xor_lt64 (by omega) (by omega)) (by unfold stepS at h; exact Int.ofNat_inj.mp h)
theorem stepS_state {s t c : Int} (hs : 0 ≤ s ∧ s < 18446744073709551616) (ht : 0 ≤ t ∧ t < 18446744073709551616) (hc : 0 ≤ c ∧ c < 256) : stepS s c = stepS t c ↔ s = t := by
  constructor
  · intro h
    have := xor_cancel_right (stepS_inj hs ht hc hc h)
    omega
  · intro h; rw [h]
theorem stepS_byte {s c d : Int} (hs : 0 ≤ s ∧ s < 18446744073709551616) (hc : 0 ≤ c ∧ c < 256) (hd : 0 ≤ d ∧ d < 256) : stepS s c = stepS s d ↔ c = d := by
  constructor
  · intro h
    have := stepS_inj hs hs hc hd h
    rw [Nat.xor_comm, Nat.xor_comm s.toNat] at this
    have := xor_cancel_right this
    omega
  · intro h; rw [h]
theorem fnvS_state : ∀ (b : List Int), IsB b → ∀ (s t : Int), (0 ≤ s ∧ s < 18446744073709551616) → (0 ≤ t ∧ t < 18446744073709551616) → (fnvS s b = fnvS t b ↔ s = t)
  | [], _, s, t, _, _ => by simp [fnvS]
  | c :: b, h, s, t, hs, ht => by
    rw [fnvS_cons, fnvS_cons, fnvS_state b (fun x hx => h x (List.mem_cons_of_mem _ hx)) _ _ (stepS_W s c) (stepS_W t c), stepS_state hs ht (h c List.mem_cons_self)]
/-- the exclusive or of a word and a byte touches the lowest byte alone -/
theorem xor_low (s c : Nat) (hc : c < 256) : s ^^^ c = s - s % 256 + (s % 256 ^^^ c) := by
  have hl : (s % 256 ^^^ c) < 2 ^ 8 := Nat.xor_lt_two_pow (Nat.mod_lt _ (by decide)) (by omega)
  have e : s - s % 256 = 2 ^ 8 * (s / 256) := by omega
  apply Nat.eq_of_testBit_eq
  intro i
  rw [e, Nat.testBit_two_pow_mul_add _ hl, Nat.testBit_xor]
  have hm : ∀ x : Nat, (x % 256).testBit i = (decide (i < 8) && x.testBit i) := fun x => Nat.testBit_mod_two_pow x 8 i
  by_cases hi : i < 8
  · rw [if_pos hi, Nat.testBit_xor, hm, decide_eq_true hi]; simp
  · rw [if_neg hi]
    have h1 : c.testBit i = false := Nat.testBit_lt_two_pow (Nat.lt_of_lt_of_le (show c < 2 ^ 8 by omega) (Nat.pow_le_pow_right (by decide) (by omega)))
    have h2 : (s / 256).testBit (i - 8) = s.testBit i := by
      rw [show (256 : Nat) = 2 ^ 8 from rfl, Nat.testBit_div_two_pow, show i - 8 + 8 = i by omega]
    rw [h1, h2]; simp
end Go.Proofs.Ytipimnidbopaoaa.M
