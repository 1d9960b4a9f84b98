/- The printed functions of the law OfBase hold what their plain specifications say. -/
import Derived.Test.YthghblmffdfbaaaGreatDoorPOfBasex1H
import Derived.Test.YthghblmffdfbaaaGreatDoorM6H
namespace Go.Proofs.YthghblmffdfbaaaGreatDoor.QOfBase
open Go Go.RowKit Go.Proofs.YthghblmffdfbaaaGreatDoor Go.Proofs.YthghblmffdfbaaaGreatDoor.M Go.Proofs.YthghblmffdfbaaaGreatDoor.POfBase Go.Proofs.YthghblmffdfbaaaGreatDoorW.PrintWords Go.Proofs.YthghblmffdfbaaaGreatDoorW.PrintLast Go.Proofs.YthghblmffdfbaaaGreatDoorW.PrintMore
set_option linter.unusedVariables false
set_option linter.unusedSimpArgs false
set_option maxRecDepth 10000
set_option maxHeartbeats 1000000
theorem wordBytes_l1 (x5 : Int) (x11 : List Int) (x12 x13 r) : ∀ d j : Nat, j + d = 8 → ∀ x3 : List Int, x3.length + d < 140737488355328 → Ev (fun k => word_Bytes.l0 k (x3 ++ bs d (x5 / 256 ^ j)) x11 x12 (wrap64 (x13 + 1))) r → Ev (fun k => word_Bytes.l1 k x3 x5 x11 x12 x13 (j : Int)) r := by
  intro d
  induction d with
  | zero =>
    intro j hj x3 hl h
    obtain rfl : j = 8 := by omega
    refine Ev.step (fun k => ?_) h
    simp only [word_Bytes.l1]
    rw [if_neg (by omega)]
    simp [bs]
  | succ d ih =>
    intro j hj x3 hl h
    refine Ev.step (f := fun k => word_Bytes.l1 k (x3 ++ [x5 / 256 ^ j % 256]) x5 x11 x12 x13 ((j + 1 : Nat) : Int)) (fun k => ?_) (ih (j + 1) (by omega) _ (by simp; omega) ?_)
    · simp only [word_Bytes.l1]
      rw [if_pos (by omega), if_pos (by rw [w64 (by omega) (by omega), wu (by omega) (by omega)]; omega), if_pos (by omega), shr8 _ _ (by omega), w64 (by omega) (by omega), show (j : Int) + 1 = ((j + 1 : Nat) : Int) by omega]
    · rw [List.append_assoc, List.singleton_append, Int.pow_succ, ← Int.ediv_ediv_of_nonneg (Int.pow_nonneg (by decide))]; exact h
theorem wordBytes_l0 (x0 : List Int) (hx : x0.length * 8 < 140737488355328) : ∀ d i : Nat, i + d = x0.length → ∀ x3 : List Int, x3 = bytesS (x0.take i) → Ev (fun k => word_Bytes.l0 k x3 x0 (x0.length : Int) (i : Int)) (bytesS x0) := by
  intro d
  induction d with
  | zero =>
    intro i hi x3 h
    refine Ev.step (f := fun _ => some x3) (fun k => ?_) ?_
    · simp only [word_Bytes.l0]; rw [if_neg (by omega)]
    · rw [h, List.take_of_length_le (by omega)]; exact Ev.now _
  | succ d ih =>
    intro i hi x3 h
    refine Ev.step (f := fun k => word_Bytes.l1 k x3 (rd x0 (i : Int)) x0 (x0.length : Int) (i : Int) ((0 : Nat) : Int)) (fun k => ?_) (wordBytes_l1 _ x0 _ _ _ 8 0 rfl _ ?_ ?_)
    · simp only [word_Bytes.l0]; rw [if_pos (by omega), if_pos (by omega), if_pos (by omega)]; rfl
    · rw [h, bytesS_length, List.length_take]; omega
    · rw [w64 (by omega) (by omega), show (i : Int) + 1 = ((i + 1 : Nat) : Int) by omega]
      refine ih (i + 1) (by omega) _ ?_
      rw [take_rd (by omega), bytesS_append, h]; simp [bytesS]
theorem wordBytes (l : List Int) (hx : l.length * 8 < 140737488355328) : Ev (fun k => word_Bytes.f k l) (bytesS l) := by
  refine Ev.congr (fun k => ?_) (wordBytes_l0 l hx l.length 0 (by omega) [] rfl)
  unfold word_Bytes.f
  rw [if_pos (by rw [w64 (by omega) (by omega)]; omega), if_pos (by rw [w64 (by omega) (by omega)]; omega)]
  rfl
theorem tagOf_step (x3 : Int) (l : List Int) (hl : l.length = 8) (i : Nat) (hi : i < 8) (k : Nat) : tagbyte_Of.l0 (k + 1) x3 l 8 (i : Int) = if rd l (i : Int) = 0 then tagbyte_Of.l0 k x3 l 8 ((i + 1 : Nat) : Int) else tagbyte_Of.l0 k (Go.bits .or .u8 x3 (shl .u8 1 (i : Int))) l 8 ((i + 1 : Nat) : Int) := by
  simp only [tagbyte_Of.l0]
  rw [if_pos (show (i : Int) < 8 by omega), if_pos (show 0 ≤ (i : Int) by omega), if_pos (show (i : Int) < (l.length : Int) by omega), wrap_succ i (by omega), wu (by omega) (by omega)]
  simp only [if_pos (show 0 ≤ (i : Int) by omega)]
theorem or_tag : ∀ i : Fin 8, ∀ n : Fin 256, n.val < 2 ^ i.val → Go.bits .or .u8 ((n.val : Nat) : Int) (shl .u8 1 ((i.val : Nat) : Int)) = ((n.val : Nat) : Int) + 2 ^ i.val := by decide +kernel
theorem tagOf_l0 (l : List Int) (hl : l.length = 8) : ∀ d i : Nat, i + d = 8 → ∀ x3 : Int, x3 = tagL (l.take i) → Ev (fun k => tagbyte_Of.l0 k x3 l 8 (i : Int)) (tagL l) := by
  intro d
  induction d with
  | zero =>
    intro i hi x3 h
    refine Ev.step (f := fun _ => some x3) (fun k => ?_) ?_
    · simp only [tagbyte_Of.l0]; rw [if_neg (by omega)]
    · rw [h, List.take_of_length_le (by omega)]; exact Ev.now _
  | succ d ih =>
    intro i hi x3 h
    have ht : l.take (i + 1) = l.take i ++ [rd l (i : Int)] := take_rd (by omega)
    have hlen : (l.take i).length = i := by rw [List.length_take]; omega
    refine Ev.step (tagOf_step x3 l hl i (by omega)) ?_
    by_cases h0 : rd l (i : Int) = 0
    · refine Ev.congr (fun k => if_pos h0) (ih (i + 1) (by omega) _ ?_)
      rw [ht, tagL_append, h0, h]; simp [tagL]
    · refine Ev.congr (fun k => if_neg h0) (ih (i + 1) (by omega) _ ?_)
      have h1 := tagL_nonneg (l.take i)
      have h2 := tagL_lt (l.take i)
      rw [hlen] at h2
      rw [ht, tagL_append, hlen, ← h]
      rw [← h] at h1 h2
      obtain ⟨n, rfl⟩ := Int.eq_ofNat_of_zero_le h1
      have h3 : n < 2 ^ i := by exact_mod_cast h2
      have h4 : (2 : Nat) ^ i ≤ 2 ^ 8 := Nat.pow_le_pow_right (by decide) (by omega)
      have := or_tag ⟨i, by omega⟩ ⟨n, Nat.lt_of_lt_of_le h3 h4⟩ h3
      rw [this]; simp [tagL, h0]
theorem tagOf (w : Int) : Ev (fun k => tagbyte_Of.f k w) (ofS w) := by
  unfold tagbyte_Of.f
  refine Ev.bind (wordBytes [w] (by simp)) ?_
  have e : bytesS [w] = bs 8 w := by simp [bytesS]
  rw [e, bs_length]
  exact tagOf_l0 _ (bs_length 8 w) 8 0 rfl 0 rfl
theorem bitsOnes_all : ∀ n : Fin 256, bits_OnesCount8.f ((n.val : Nat) : Int) = some ((onesS ((n.val : Nat) : Int) : Nat) : Int) := by decide +kernel
theorem bitsOnes {t : Int} (h0 : 0 ≤ t) (h1 : t < 256) : bits_OnesCount8.f t = some ((onesS t : Nat) : Int) := by
  obtain ⟨n, rfl⟩ := Int.eq_ofNat_of_zero_le h0
  exact bitsOnes_all ⟨n, by omega⟩
theorem tagOnes {t : Int} (h0 : 0 ≤ t) (h1 : t < 256) : tagbyte_Ones.f t = some ((onesS t : Nat) : Int) := by
  unfold tagbyte_Ones.f
  rw [bitsOnes h0 h1]; rfl
end Go.Proofs.YthghblmffdfbaaaGreatDoor.QOfBase
