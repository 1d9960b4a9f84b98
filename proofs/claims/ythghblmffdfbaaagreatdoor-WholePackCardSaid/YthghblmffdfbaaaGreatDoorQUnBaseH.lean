/- The printed functions of the law UnBase hold what their plain specifications say. -/
import Derived.Test.YthghblmffdfbaaaGreatDoorPUnBasex1H
import Derived.Test.YthghblmffdfbaaaGreatDoorM6H
namespace Go.Proofs.YthghblmffdfbaaaGreatDoor.QUnBase
open Go Go.RowKit Go.Proofs.YthghblmffdfbaaaGreatDoor Go.Proofs.YthghblmffdfbaaaGreatDoor.M Go.Proofs.YthghblmffdfbaaaGreatDoor.PUnBase Go.Proofs.YthghblmffdfbaaaGreatDoorW.PrintWords Go.Proofs.YthghblmffdfbaaaGreatDoorW.PrintLast Go.Proofs.YthghblmffdfbaaaGreatDoorW.PrintMore
set_option linter.unusedVariables false
set_option linter.unusedSimpArgs false
set_option maxRecDepth 10000
set_option maxHeartbeats 1000000
theorem bitsOnes_all : ∀ n : Fin 256, bits_OnesCount8.f ((n.val : Nat) : Int) = some ((onesS ((n.val : Nat) : Int) : Nat) : Int) := by decide +kernel
theorem bitsOnes {t : Int} (h0 : 0 ≤ t) (h1 : t < 256) : bits_OnesCount8.f t = some ((onesS t : Nat) : Int) := by
  obtain ⟨n, rfl⟩ := Int.eq_ofNat_of_zero_le h0
  exact bitsOnes_all ⟨n, by omega⟩
theorem tagOnes {t : Int} (h0 : 0 ≤ t) (h1 : t < 256) : tagbyte_Ones.f t = some ((onesS t : Nat) : Int) := by
  unfold tagbyte_Ones.f
  rw [bitsOnes h0 h1]; rfl
theorem wordMask (n : Nat) (h0 : 1 ≤ n) (h1 : n ≤ 64) : word_mask.f (n : Int) = some ((2 ^ n - 1 : Nat) : Int) := by
  unfold word_mask.f
  rw [w64 (by omega) (by omega), wu (by omega) (by omega), if_pos (by omega)]
  rw [show (18446744073709551615 : Int) = ((18446744073709551615 : Nat) : Int) from rfl, shr_nat _ _ (by omega) (by omega), show (64 - (n : Int)).toNat = 64 - n by omega, mask_eq n h1]
theorem wordInsert (W at_ n V : Nat) (hW : W < 18446744073709551616) (hV : V < 18446744073709551616) (h0 : 1 ≤ n) (h1 : at_ + n ≤ 64) : ∃ R : Nat, word_Insert.f (W : Int) (at_ : Int) (n : Int) (V : Int) = some (R : Int) ∧ R < 18446744073709551616 ∧ ∀ i, R.testBit i = insB W at_ n V i := by
  unfold word_Insert.f
  have hp := two_pow_le64 (n := n) (by omega)
  rw [wordMask n h0 (by omega), Option.bind_some, wu (by omega) (by omega), if_pos (by omega), shl_nat _ _ (by omega) (by omega), shl_nat _ _ (by omega) (by omega), Int.toNat_natCast]
  have hmb : ∀ i, ((2 ^ n - 1) <<< at_ % 18446744073709551616).testBit i = (decide (at_ ≤ i ∧ i < at_ + n)) := by
    intro i
    rw [show (18446744073709551616 : Nat) = 2 ^ 64 from rfl, Nat.testBit_mod_two_pow, Nat.testBit_shiftLeft, Nat.testBit_two_pow_sub_one]
    by_cases h : at_ ≤ i ∧ i < at_ + n
    · rw [decide_eq_true h, decide_eq_true (show i < 64 by omega), decide_eq_true (show i ≥ at_ by omega), decide_eq_true (show i - at_ < n by omega)]; rfl
    · rw [decide_eq_false h]
      by_cases h2 : i ≥ at_
      · rw [decide_eq_false (show ¬ (i - at_ < n) by omega)]; simp
      · rw [decide_eq_false h2]; simp
  generalize hM : (2 ^ n - 1) <<< at_ % 18446744073709551616 = M at *
  have hM64 : M < 2 ^ 64 := by rw [← hM]; exact Nat.mod_lt _ (by decide)
  have hvb : ∀ i, (V <<< at_ % 18446744073709551616).testBit i = (decide (i < 64) && (decide (i ≥ at_) && V.testBit (i - at_))) := by
    intro i
    rw [show (18446744073709551616 : Nat) = 2 ^ 64 from rfl, Nat.testBit_mod_two_pow, Nat.testBit_shiftLeft]
  have hX64 : V <<< at_ % 18446744073709551616 < 2 ^ 64 := Nat.mod_lt _ (by decide)
  generalize hX : V <<< at_ % 18446744073709551616 = X at *
  obtain ⟨r, hr, hr64, hrb⟩ := bits_andNot W M hW hM64
  have hA : X &&& M < 2 ^ 64 := Nat.and_lt_two_pow _ hM64
  refine ⟨r ||| (X &&& M), ?_, Nat.or_lt_two_pow hr64 hA, fun i => ?_⟩
  · rw [hr, bits_and _ _ hX64 hM64, bits_or _ _ hr64 hA]
  · rw [Nat.testBit_or, hrb, Nat.testBit_and, hmb, hvb, insB]
    by_cases h : at_ ≤ i ∧ i < at_ + n
    · rw [decide_eq_true h, if_pos h, decide_eq_true (show i < 64 by omega), decide_eq_true (show i ≥ at_ by omega)]; simp
    · rw [decide_eq_false h, if_neg h]; simp
theorem and_tag : ∀ i : Fin 8, ∀ n : Fin 256, Go.bits .and .u8 (shr .u8 ((n.val : Nat) : Int) ((i.val : Nat) : Int)) 1 = ((n.val : Nat) : Int) / 2 ^ i.val % 2 := by decide +kernel
theorem insert_byte {W i : Nat} {x : Int} (hi : i < 8) (hW : W < 2 ^ (8 * i)) (h0 : 0 ≤ x) (h1 : x < 256) : word_Insert.f (W : Int) ((8 * i : Nat) : Int) 8 x = some ((W : Int) + 2 ^ (8 * i) * x) := by
  obtain ⟨X, rfl⟩ := Int.eq_ofNat_of_zero_le h0
  have hp : (2 : Nat) ^ (8 * i) ≤ 2 ^ 56 := Nat.pow_le_pow_right (by decide) (by omega)
  have hW64 : W < 18446744073709551616 := by omega
  obtain ⟨R, hR, hR1, hR2⟩ := wordInsert W (8 * i) 8 X hW64 (by omega) (by omega) (by omega)
  have e : R = 2 ^ (8 * i) * X + W := by
    apply Nat.eq_of_testBit_eq
    intro j
    rw [hR2, Nat.testBit_two_pow_mul_add _ hW, insB]
    by_cases hj : j < 8 * i
    · rw [if_neg (by omega), if_pos hj]
    · rw [if_neg hj]
      by_cases hj2 : j < 8 * i + 8
      · rw [if_pos (by omega)]
      · rw [if_neg (by omega)]
        have h8 : (2 : Nat) ^ (8 * i) ≤ 2 ^ j := Nat.pow_le_pow_right (by decide) (by omega)
        have h9 : (2 : Nat) ^ 8 ≤ 2 ^ (j - 8 * i) := Nat.pow_le_pow_right (by decide) (by omega)
        have h10 : X < 2 ^ (j - 8 * i) := Nat.lt_of_lt_of_le (show X < 2 ^ 8 by omega) h9
        rw [Nat.testBit_lt_two_pow (Nat.lt_of_lt_of_le hW h8), Nat.testBit_lt_two_pow h10]
  rw [show ((8 : Nat) : Int) = (8 : Int) from rfl] at hR
  rw [hR, e, Int.natCast_add, Int.natCast_mul, Int.natCast_pow, Int.add_comm]; rfl
theorem tagExpand_yes (t : Nat) (b : List Int) (ht : t < 256) (hB : IsB b) (hb : b.length ≤ 140737488355328) (x7 : Int) (hn : onesS (t : Int) ≤ b.length) : ∀ d i : Nat, i + d = 8 → ∀ w kk : Int, w = val (expF i (t : Int) b) → kk = ((onesF i (t : Int) : Nat) : Int) → Ev (fun k => tagbyte_Expand.l0 k (t : Int) b x7 w kk (i : Int)) (expS (t : Int) b, x7, true) := by
  intro d
  induction d with
  | zero =>
    intro i hi w kk hw hk
    obtain rfl : i = 8 := by omega
    refine Ev.step (f := fun _ => some (w, x7, true)) (fun k => ?_) ?_
    · simp only [tagbyte_Expand.l0]; rw [if_neg (by omega)]
    · rw [hw]; exact Ev.now _
  | succ d ih =>
    intro i hi w kk hw hk
    have hi8 : i < 8 := by omega
    have hs := expF_snoc i (t : Int) b
    have ho := onesF_snoc i (t : Int)
    have hl := expF_length i (t : Int) b
    have hE := expF_B i (t : Int) b hB
    have hbit : Go.bits .and .u8 (shr .u8 (t : Int) (i : Int)) 1 = (t : Int) / 2 ^ i % 2 := and_tag ⟨i, hi8⟩ ⟨t, ht⟩
    have hmono : onesF (i + 1) (t : Int) ≤ onesS (t : Int) := by
      clear ih hs ho hl hE hbit hw hk
      have m : ∀ j : Nat, onesF (i + 1) (t : Int) ≤ onesF (i + 1 + j) (t : Int) := by
        intro j
        induction j with
        | zero => exact Nat.le_refl _
        | succ j ihj => have := onesF_snoc (i + 1 + j) (t : Int); rw [← Nat.add_assoc]; omega
      have := m (7 - i)
      rwa [show i + 1 + (7 - i) = 8 by omega] at this
    have hs0 : ∀ k, tagbyte_Expand.l0 (k + 1) (t : Int) b x7 w kk (i : Int) = if (t : Int) / 2 ^ i % 2 = 1 then (if 0 ≤ kk then (if kk < (b.length : Int) then ((word_Insert.f w ((8 * i : Nat) : Int) 8 (IntKind.u64.wrap (rd b kk))).bind fun t105 => (tagbyte_Expand.l0 k (t : Int) b x7 t105 (wrap64 (kk + 1)) ((i + 1 : Nat) : Int))) else none) else none) else tagbyte_Expand.l0 k (t : Int) b x7 w kk ((i + 1 : Nat) : Int) := by
      clear ih hs ho hl hE hmono
      intro k
      simp only [tagbyte_Expand.l0]
      rw [if_pos (by omega), wu (x := (i : Int)) (by omega) (by omega), if_pos (by omega), hbit, wrap_succ i (by omega), show wrap64 (8 * (i : Int)) = ((8 * i : Nat) : Int) by rw [w64 (by omega) (by omega)]; omega]
    by_cases h1 : (t : Int) / 2 ^ i % 2 = 1
    · rw [if_pos h1] at hs
      rw [h1] at ho
      have hkk : onesF i (t : Int) < b.length := by simp at ho; omega
      have hx := rd_B hB ((onesF i (t : Int) : Nat) : Int)
      have hw0 := val_nonneg _ hE
      have hw1 := val_lt _ hE
      rw [hl, show (256 : Int) ^ i = 2 ^ (8 * i) by rw [Int.pow_mul]; rfl, ← hw] at hw1
      rw [← hw] at hw0
      obtain ⟨W, rfl⟩ := Int.eq_ofNat_of_zero_le hw0
      have hW : W < 2 ^ (8 * i) := by exact_mod_cast hw1
      clear hw0 hw1
      refine Ev.step (f := fun k => tagbyte_Expand.l0 k (t : Int) b x7 ((W : Int) + 2 ^ (8 * i) * rd b kk) (wrap64 (kk + 1)) ((i + 1 : Nat) : Int)) (fun k => ?_) (ih (i + 1) (by omega) _ _ ?_ ?_)
      · rw [hs0, if_pos h1, if_pos (by omega), if_pos (by omega), hk, wu (x := rd b _) hx.1 (by omega), insert_byte hi8 hW hx.1 hx.2, Option.bind_some]
      · rw [hs, val_append, ← hw, hl, hk, show (256 : Int) ^ i = 2 ^ (8 * i) by rw [Int.pow_mul]; rfl]; simp [val]
      · rw [hk, ho, w64 (by omega) (by omega)]; simp
    · rw [if_neg h1] at hs
      rw [show (t : Int) / 2 ^ i % 2 = 0 by omega] at ho
      refine Ev.step (f := fun k => tagbyte_Expand.l0 k (t : Int) b x7 w kk ((i + 1 : Nat) : Int)) (fun k => ?_) (ih (i + 1) (by omega) _ _ ?_ ?_)
      · rw [hs0, if_neg h1]
      · rw [hs, val_append, ← hw]; simp [val]
      · rw [hk, ho]; simp
theorem tagExpand (t : Int) (b : List Int) (h0 : 0 ≤ t) (h1 : t < 256) (hB : IsB b) (hb : b.length ≤ 140737488355328) : Ev (fun k => tagbyte_Expand.f k t b) (if onesS t ≤ b.length then (expS t b, ((onesS t : Nat) : Int), true) else (0, 0, false)) := by
  obtain ⟨n, rfl⟩ := Int.eq_ofNat_of_zero_le h0
  unfold tagbyte_Expand.f
  rw [tagOnes h0 h1]
  simp only [Option.bind_some]
  by_cases h : onesS (n : Int) ≤ b.length
  · rw [if_pos h]
    exact Ev.congr (fun k => if_neg (by omega)) (tagExpand_yes n b (by omega) hB hb _ h 8 0 rfl 0 0 rfl rfl)
  · rw [if_neg h]
    exact Ev.congr (fun k => if_pos (by omega)) (Ev.now _)
theorem wordBytes_l1 (x5 : Int) (x11 : List Int) (x12 x13 r) : ∀ d j : Nat, j + d = 8 → ∀ x3 : List Int, x3.length + d < 140737488355328 → Ev (fun k => word_Bytes.l0 k (x3 ++ bs d (x5 / 256 ^ j)) x11 x12 (wrap64 (x13 + 1))) r → Ev (fun k => word_Bytes.l1 k x3 x5 x11 x12 x13 (j : Int)) r := by
  intro d
  induction d with
  | zero =>
    intro j hj x3 hl h
    obtain rfl : j = 8 := by omega
    refine Ev.step (fun k => ?_) h
    simp only [word_Bytes.l1]
    rw [if_neg (by omega)]
    simp [bs]
  | succ d ih =>
    intro j hj x3 hl h
    refine Ev.step (f := fun k => word_Bytes.l1 k (x3 ++ [x5 / 256 ^ j % 256]) x5 x11 x12 x13 ((j + 1 : Nat) : Int)) (fun k => ?_) (ih (j + 1) (by omega) _ (by simp; omega) ?_)
    · simp only [word_Bytes.l1]
      rw [if_pos (by omega), if_pos (by rw [w64 (by omega) (by omega), wu (by omega) (by omega)]; omega), if_pos (by omega), shr8 _ _ (by omega), w64 (by omega) (by omega), show (j : Int) + 1 = ((j + 1 : Nat) : Int) by omega]
    · rw [List.append_assoc, List.singleton_append, Int.pow_succ, ← Int.ediv_ediv_of_nonneg (Int.pow_nonneg (by decide))]; exact h
theorem wordBytes_l0 (x0 : List Int) (hx : x0.length * 8 < 140737488355328) : ∀ d i : Nat, i + d = x0.length → ∀ x3 : List Int, x3 = bytesS (x0.take i) → Ev (fun k => word_Bytes.l0 k x3 x0 (x0.length : Int) (i : Int)) (bytesS x0) := by
  intro d
  induction d with
  | zero =>
    intro i hi x3 h
    refine Ev.step (f := fun _ => some x3) (fun k => ?_) ?_
    · simp only [word_Bytes.l0]; rw [if_neg (by omega)]
    · rw [h, List.take_of_length_le (by omega)]; exact Ev.now _
  | succ d ih =>
    intro i hi x3 h
    refine Ev.step (f := fun k => word_Bytes.l1 k x3 (rd x0 (i : Int)) x0 (x0.length : Int) (i : Int) ((0 : Nat) : Int)) (fun k => ?_) (wordBytes_l1 _ x0 _ _ _ 8 0 rfl _ ?_ ?_)
    · simp only [word_Bytes.l0]; rw [if_pos (by omega), if_pos (by omega), if_pos (by omega)]; rfl
    · rw [h, bytesS_length, List.length_take]; omega
    · rw [w64 (by omega) (by omega), show (i : Int) + 1 = ((i + 1 : Nat) : Int) by omega]
      refine ih (i + 1) (by omega) _ ?_
      rw [take_rd (by omega), bytesS_append, h]; simp [bytesS]
theorem wordBytes (l : List Int) (hx : l.length * 8 < 140737488355328) : Ev (fun k => word_Bytes.f k l) (bytesS l) := by
  refine Ev.congr (fun k => ?_) (wordBytes_l0 l hx l.length 0 (by omega) [] rfl)
  unfold word_Bytes.f
  rw [if_pos (by rw [w64 (by omega) (by omega)]; omega), if_pos (by rw [w64 (by omega) (by omega)]; omega)]
  rfl
end Go.Proofs.YthghblmffdfbaaaGreatDoor.QUnBase
