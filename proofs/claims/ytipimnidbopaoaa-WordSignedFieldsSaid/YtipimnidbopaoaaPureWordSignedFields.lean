/- The law WordSignedFields: for every word and valid bit field, the signed value is congruent to the unsigned one, in range, and negative exactly if the highest bit of the field is set. -/
import Derived.Test.YtipimnidbopaoaaQWordSignedFields
namespace Go.Proofs.Ytipimnidbopaoaa.Pure
open Go Go.RowKit Go.Proofs.Ytipimnidbopaoaa.M Go.Proofs.Ytipimnidbopaoaa.PWordSignedFields Go.Proofs.YtipimnidbopaoaaW.PrintWords Go.Proofs.YtipimnidbopaoaaW.PrintLast Go.Proofs.YtipimnidbopaoaaW.PrintMore Go.Proofs.Ytipimnidbopaoaa.QWordSignedFields
set_option linter.unusedVariables false
set_option linter.unusedSimpArgs false
set_option maxRecDepth 10000

theorem s_wrap (u n : Nat) (h0 : 1 ≤ n) (h1 : n ≤ 64) (hu : u < 2 ^ n) : ∃ X : Nat, IntKind.u64.wrap (sgnS u n) = (X : Int) ∧ X < 18446744073709551616 ∧ fieldS X 0 n = u := by
  have hp := two_pow_le64 h1
  refine ⟨(sgnS u n % 18446744073709551616).toNat, ?_, ?_, ?_⟩
  · rw [wu_mod, Int.toNat_of_nonneg (Int.emod_nonneg _ (by decide))]
  · have := Int.emod_lt_of_pos (sgnS u n) (show (0 : Int) < 18446744073709551616 by decide); omega
  · unfold sgnS fieldS
    rw [Nat.pow_zero, Nat.div_one]
    by_cases hs : 2 ^ (n - 1) ≤ u
    · rw [if_pos hs, show (2 : Int) ^ n = ((2 ^ n : Nat) : Int) by rw [Int.natCast_pow]; rfl]
      obtain ⟨q, hq⟩ : ∃ q, 18446744073709551616 = 2 ^ n * q := ⟨2 ^ (64 - n), by rw [← Nat.pow_add, show n + (64 - n) = 64 by omega]⟩
      have hq0 : 0 < q := by
        rcases Nat.eq_zero_or_pos q with h | h
        · rw [h] at hq; omega
        · exact h
      have e : (((u : Int) - ((2 ^ n : Nat) : Int)) % 18446744073709551616).toNat = u + 2 ^ n * (q - 1) := by
        have : 2 ^ n * (q - 1) + 2 ^ n = 18446744073709551616 := by rw [hq, ← Nat.mul_succ]; congr 1; omega
        omega
      rw [e, Nat.add_mul_mod_self_left, Nat.mod_eq_of_lt hu]
    · rw [if_neg hs, show ((u : Int) % 18446744073709551616).toNat = u by omega, Nat.mod_eq_of_lt hu]
theorem s_neg (u n : Nat) (h0 : 1 ≤ n) (hu : u < 2 ^ n) : (sgnS u n < 0) ↔ u.testBit (n - 1) = true := by
  have hp2 : 2 ^ n = 2 * 2 ^ (n - 1) := by rw [← Nat.pow_succ', show (n - 1).succ = n by omega]
  have hpos := Nat.two_pow_pos (n - 1)
  rw [sgnS, show (2 : Int) ^ n = ((2 ^ n : Nat) : Int) by rw [Int.natCast_pow]; rfl]
  by_cases hs : 2 ^ (n - 1) ≤ u
  · rw [if_pos hs]
    refine ⟨fun _ => ?_, fun _ => by omega⟩
    rw [Nat.testBit_eq_decide_div_mod_eq]
    have : u / 2 ^ (n - 1) = 1 := Nat.div_eq_of_lt_le (by omega) (by omega)
    rw [this]; rfl
  · rw [if_neg hs]
    refine ⟨fun h => absurd h (by omega), fun h => ?_⟩
    rw [Nat.testBit_lt_two_pow (by omega)] at h
    exact absurd h (by decide)
theorem s_tail (W at_ n : Nat) (hW : W < 18446744073709551616) (h0 : 1 ≤ n) (h1 : n ≤ 64) (h2 : at_ + n ≤ 64) : Ev (fun k => capnplaw01_WordSignedFields.j0 k (n : Int) (sgnS (fieldS W at_ n) n) ((fieldS W at_ n : Nat) : Int) false) true := by
  have hu := field_lt W at_ n
  generalize fieldS W at_ n = u at *
  have hp2 : 2 ^ n = 2 * 2 ^ (n - 1) := by rw [← Nat.pow_succ', show (n - 1).succ = n by omega]
  have e2 : (2 : Int) ^ n = ((2 ^ n : Nat) : Int) := by rw [Int.natCast_pow]; rfl
  refine Ev.step (fun k => by simp only [capnplaw01_WordSignedFields.j0]; rfl) (Ev.congr (fun k => if_neg (by simp)) ?_)
  by_cases hn : n = 64
  · subst hn
    have h64 : u < 18446744073709551616 := hu
    refine Ev.congr (fun k => if_pos (by simp)) ?_
    have e : wrap64 (u : Int) = sgnS u 64 := by
      unfold sgnS wrap64
      have e63 : (2 : Nat) ^ (64 - 1) = 9223372036854775808 := by decide
      have e64 : (2 : Int) ^ 64 = 18446744073709551616 := by decide
      rw [e63, e64]
      split <;> omega
    rw [e, beq_self_eq_true]; exact Ev.now _
  · have h63 : n - 1 ≤ 62 := by omega
    have h63' : 2 ^ (n - 1) ≤ 2 ^ 62 := Nat.pow_le_pow_right (by decide) h63
    rw [show (2 : Nat) ^ 62 = 4611686018427387904 from by decide] at h63'
    refine Ev.congr (fun k => if_neg (by omega)) ?_
    rw [show wrap64 ((n : Int) - 1) = ((n - 1 : Nat) : Int) by rw [w64 (by omega) (by omega)]; omega]
    refine Ev.bind (refPow (n - 1) (by omega)) ?_
    have hr : -((2 ^ (n - 1) : Nat) : Int) ≤ sgnS u n ∧ sgnS u n < ((2 ^ (n - 1) : Nat) : Int) := by
      rw [sgnS, e2]
      split <;> omega
    rw [w64 (x := ((2 ^ (n - 1) : Nat) : Int)) (by omega) (by omega), w64 (x := -((2 ^ (n - 1) : Nat) : Int)) (by omega) (by omega)]
    refine Ev.congr (fun k => if_pos (by omega)) (Ev.bind (refPow (n - 1) (by omega)) ?_)
    rw [w64 (x := ((2 ^ (n - 1) : Nat) : Int)) (by omega) (by omega), decide_eq_true hr.2]
    exact Ev.now _
theorem WordSignedFields : capnplaw01_WordSignedFields.Pure := by
  intro a0 a1 a2 w0 w1 w2
  apply Ev.rounds
  unfold capnplaw01_WordSignedFields.f
  refine Ev.bind awake01 (Ev.congr (fun k => if_pos (by simp)) ?_)
  obtain ⟨W, rfl⟩ := Int.eq_ofNat_of_zero_le (wf_u64 w0).1
  have hW : W < 18446744073709551616 := by have := (wf_u64 w0).2; omega
  obtain ⟨at_, n, hP, hn0, hn1, han⟩ := refPlace a1 a2 (wf_u8 w1).1 (wf_u8 w1).2 (wf_u8 w2).1 (wf_u8 w2).2
  obtain ⟨X, hX, hX1, hX2⟩ := s_wrap (fieldS W at_ n) n hn0 hn1 (field_lt W at_ n)
  have hF := wordField W (at_ + n - 1) 1 hW (by omega) (by omega)
  have ei : wrap64 (wrap64 ((at_ : Int) + (n : Int)) - 1) = ((at_ + n - 1 : Nat) : Int) := by rw [w64 (x := (at_ : Int) + (n : Int)) (by omega) (by omega), w64 (by omega) (by omega)]; omega
  have hX0 := wordField X 0 n hX1 hn0 (by omega)
  rw [hX2] at hX0
  simp only [hP, Option.bind_some, wordSigned W at_ n hW hn0 han, wordField W at_ n hW hn0 han, hX, ei]
  rw [show (0 : Int) = ((0 : Nat) : Int) from rfl, hX0, show (1 : Int) = ((1 : Nat) : Int) from rfl, hF]
  simp only [Option.bind_some]
  refine Ev.congr (fun k => if_pos (by simp)) ?_
  have hb : ((decide (sgnS (fieldS W at_ n) n < ((0 : Nat) : Int))) != (((fieldS W (at_ + n - 1) 1 : Nat) : Int) == ((1 : Nat) : Int))) = false := by
    have h1 := s_neg (fieldS W at_ n) n hn0 (field_lt W at_ n)
    rw [field_testBit, decide_eq_true (show n - 1 < n by omega), Bool.true_and, show at_ + (n - 1) = at_ + n - 1 by omega] at h1
    have h2 : fieldS W (at_ + n - 1) 1 = (W.testBit (at_ + n - 1)).toNat := by rw [fieldS, Nat.toNat_testBit]
    rw [h2]
    cases hw : W.testBit (at_ + n - 1)
    · rw [hw] at h1
      have : ¬ sgnS (fieldS W at_ n) n < 0 := fun h => absurd (h1.mp h) (by decide)
      simp [this]
    · rw [hw] at h1
      have : sgnS (fieldS W at_ n) n < 0 := h1.mpr rfl
      simp [this]
  rw [hb]
  exact s_tail W at_ n hW hn0 hn1 han
end Go.Proofs.Ytipimnidbopaoaa.Pure
