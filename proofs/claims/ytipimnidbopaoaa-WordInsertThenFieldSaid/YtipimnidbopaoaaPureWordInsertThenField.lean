/- The law WordInsertThenField: for all words and valid bit fields, a bit field reads as the low bits that were inserted, fields that do not overlap are independent, and inserting the old value restores the word. -/
import Derived.Test.YtipimnidbopaoaaQWordInsertThenField
namespace Go.Proofs.Ytipimnidbopaoaa.Pure
open Go Go.RowKit Go.Proofs.Ytipimnidbopaoaa.M Go.Proofs.Ytipimnidbopaoaa.PWordInsertThenField Go.Proofs.YtipimnidbopaoaaW.PrintWords Go.Proofs.YtipimnidbopaoaaW.PrintLast Go.Proofs.YtipimnidbopaoaaW.PrintMore Go.Proofs.Ytipimnidbopaoaa.QWordInsertThenField
set_option linter.unusedVariables false
set_option linter.unusedSimpArgs false
set_option maxRecDepth 10000

theorem i_same {a b at_ n : Nat} (h : ∀ i, i < n → a.testBit (at_ + i) = b.testBit (at_ + i)) : fieldS a at_ n = fieldS b at_ n := by
  apply Nat.eq_of_testBit_eq; intro i
  rw [field_testBit, field_testBit]
  by_cases hi : i < n
  · rw [h i hi]
  · rw [decide_eq_false hi]; rfl
theorem WordInsertThenField : capnplaw01_WordInsertThenField.Pure := by
  intro a0 a1 a2 a3 a4 a5 a6 w0 w1 w2 w3 w4 w5 w6
  apply Ev.rounds
  unfold capnplaw01_WordInsertThenField.f
  refine Ev.bind awake01 (Ev.congr (fun k => if_pos (by simp)) ?_)
  obtain ⟨W, rfl⟩ := Int.eq_ofNat_of_zero_le (wf_u64 w0).1
  obtain ⟨V, rfl⟩ := Int.eq_ofNat_of_zero_le (wf_u64 w1).1
  obtain ⟨U, rfl⟩ := Int.eq_ofNat_of_zero_le (wf_u64 w2).1
  have hW : W < 18446744073709551616 := by have := (wf_u64 w0).2; omega
  have hV : V < 18446744073709551616 := by have := (wf_u64 w1).2; omega
  have hU : U < 18446744073709551616 := by have := (wf_u64 w2).2; omega
  obtain ⟨p, n, hP, hn0, hn1, han⟩ := refPlace a3 a4 (wf_u8 w3).1 (wf_u8 w3).2 (wf_u8 w4).1 (wf_u8 w4).2
  obtain ⟨q, m, hQ, hm0, hm1, ham⟩ := refPlace a5 a6 (wf_u8 w5).1 (wf_u8 w5).2 (wf_u8 w6).1 (wf_u8 w6).2
  obtain ⟨X, hX, hX1, hX2⟩ := wordInsert W p n V hW hV hn0 han
  have hFW : fieldS W p n < 18446744073709551616 := Nat.lt_of_lt_of_le (field_lt W p n) (two_pow_le64 hn1)
  obtain ⟨Y, hY, hY1, hY2⟩ := wordInsert X p n (fieldS W p n) hX1 hFW hn0 han
  obtain ⟨Z, hZ, hZ1, hZ2⟩ := wordInsert X p n U hX1 hU hn0 han
  obtain ⟨Z', hZ', hZ1', hZ2'⟩ := wordInsert W p n U hW hU hn0 han
  obtain ⟨T, hT, hT1, hT2⟩ := wordInsert W 0 64 V hW hV (by omega) (by omega)
  have e1 : fieldS X p n = fieldS V 0 n := by
    apply Nat.eq_of_testBit_eq; intro i
    rw [field_testBit, field_testBit, hX2, insB]
    by_cases hi : i < n
    · rw [if_pos (by omega)]; simp
    · rw [decide_eq_false hi]; rfl
  have e2 : Y = W := by
    apply Nat.eq_of_testBit_eq; intro i
    rw [hY2, insB]
    by_cases hi : p ≤ i ∧ i < p + n
    · rw [if_pos hi, field_testBit, decide_eq_true (by omega), show p + (i - p) = i by omega]; rfl
    · rw [if_neg hi, hX2, insB, if_neg hi]
  have e3 : Z = Z' := by
    apply Nat.eq_of_testBit_eq; intro i
    rw [hZ2, hZ2', insB, insB]
    by_cases hi : p ≤ i ∧ i < p + n
    · rw [if_pos hi, if_pos hi]
    · rw [if_neg hi, if_neg hi, hX2, insB, if_neg hi]
  have hV0 := wordField V 0 n hV hn0 (by omega)
  rw [show ((0 : Nat) : Int) = (0 : Int) from rfl] at hV0
  simp only [hP, hQ, Option.bind_some, hX, wordField X p n hX1 hn0 han, hV0, wordField W p n hW hn0 han, hY, hZ, hZ', e1, e2, e3]
  refine Ev.congr (fun k => if_pos (by simp)) (Ev.congr (fun k => if_pos (by simp)) ?_)
  rw [bne_self_eq_false]
  refine Ev.step (fun k => by simp only [capnplaw01_WordInsertThenField.j0]; rfl) (Ev.congr (fun k => if_neg (by simp)) ?_)
  rw [w64 (x := (p : Int) + (n : Int)) (by omega) (by omega), w64 (x := (q : Int) + (m : Int)) (by omega) (by omega)]
  have far : (p + n ≤ q ∨ q + m ≤ p) → Ev (fun k => capnplaw01_WordInsertThenField.j1 k (W : Int) (V : Int) (q : Int) (m : Int) (X : Int) true) true := by
    intro h
    refine Ev.step (fun k => by simp only [capnplaw01_WordInsertThenField.j1]; rfl) (Ev.congr (fun k => if_pos (by simp)) ?_)
    simp only [wordField X q m hX1 hm0 ham, wordField W q m hW hm0 ham, Option.bind_some]
    rw [show fieldS X q m = fieldS W q m from i_same (fun i hi => by rw [hX2, insB, if_neg (by omega)]), beq_self_eq_true]
    exact Ev.now _
  by_cases h1 : (p : Int) + (n : Int) ≤ (q : Int)
  · exact Ev.congr (fun k => if_pos h1) (far (by omega))
  · refine Ev.congr (fun k => if_neg h1) ?_
    by_cases h2 : (q : Int) + (m : Int) ≤ (p : Int)
    · rw [decide_eq_true h2]; exact far (by omega)
    · rw [decide_eq_false h2]
      refine Ev.step (fun k => by simp only [capnplaw01_WordInsertThenField.j1]; rfl) (Ev.congr (fun k => if_neg (by simp)) ?_)
      rw [show ((0 : Nat) : Int) = (0 : Int) from rfl, show ((64 : Nat) : Int) = (64 : Int) from rfl] at hT
      simp only [hT, wordField T q m hT1 hm0 ham, wordField V q m hV hm0 ham, Option.bind_some]
      rw [show fieldS T q m = fieldS V q m from i_same (fun i hi => by rw [hT2, insB, if_pos (by omega), Nat.sub_zero]), beq_self_eq_true]
      exact Ev.now _
end Go.Proofs.Ytipimnidbopaoaa.Pure
