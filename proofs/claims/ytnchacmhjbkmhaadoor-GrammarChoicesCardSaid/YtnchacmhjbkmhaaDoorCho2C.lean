/- Tags that a word can be packed with; literal runs joined and split: what decoding says, and when it is the packed form. -/
import Derived.Test.YtnchacmhjbkmhaaDoorChoC
namespace Go.Proofs.YtnchacmhjbkmhaaDoor.Un
open Go Go.RowKit Go.Proofs.YtnchacmhjbkmhaaDoor.M Go.Proofs.YtnchacmhjbkmhaaDoorW.PrintWords Go.Proofs.YtnchacmhjbkmhaaDoorW.PrintLast Go.Proofs.YtnchacmhjbkmhaaDoorW.PrintMore
set_option linter.unusedVariables false
set_option linter.unusedSimpArgs false
set_option maxRecDepth 10000
theorem ofInt_nat8 (n : Nat) : BitVec.ofInt 8 (n : Int) = BitVec.ofNat 8 n := by
  apply BitVec.eq_of_toNat_eq; simp
theorem bits_or8 (n m : Nat) (hn : n < 2 ^ 8) (hm : m < 2 ^ 8) : Go.bits .or .u8 (n : Int) (m : Int) = ((n ||| m : Nat) : Int) := by
  show IntKind.u8.wrap (((BitVec.ofInt 8 (n : Int)) ||| (BitVec.ofInt 8 (m : Int))).toNat : Int) = _
  rw [ofInt_nat8, ofInt_nat8]
  have h : (BitVec.ofNat 8 n ||| BitVec.ofNat 8 m).toNat = n ||| m := by
    rw [BitVec.toNat_or, BitVec.toNat_ofNat, BitVec.toNat_ofNat, Nat.mod_eq_of_lt hn, Nat.mod_eq_of_lt hm]
  rw [h]
  have := Nat.or_lt_two_pow hn hm
  show (((n ||| m : Nat) : Int)) % 256 = _
  omega
theorem cov_or : ∀ (d n m : Nat), covF d ((n ||| m : Nat) : Int) (n : Int) = true := by
  intro d
  induction d with
  | zero => intro n m; rfl
  | succ d ih =>
    intro n m
    have e1 : ((n ||| m : Nat) : Int) / 2 = ((n / 2 ||| m / 2 : Nat) : Int) := by
      rw [← Nat.or_div_two]; omega
    have e2 : (n : Int) / 2 = ((n / 2 : Nat) : Int) := by omega
    rw [covF, e1, e2]
    by_cases q : (n : Int) % 2 = 1
    · rw [if_pos q, if_neg, ih]
      have : (n ||| m) % 2 = 1 := by rw [Nat.or_mod_two_eq_one]; left; omega
      omega
    · rw [if_neg q, ih]
theorem or_tag {t a : Int} (h0 : 0 ≤ t) (h1 : t < 256) (a0 : 0 ≤ a) (a1 : a < 256) : ∃ T : Int, Go.bits .or .u8 t a = T ∧ 0 ≤ T ∧ T < 256 ∧ covF 8 T t = true := by
  obtain ⟨n, rfl⟩ := Int.eq_ofNat_of_zero_le h0
  obtain ⟨m, rfl⟩ := Int.eq_ofNat_of_zero_le a0
  have hn : n < 2 ^ 8 := by omega
  have hm : m < 2 ^ 8 := by omega
  have := Nat.or_lt_two_pow hn hm
  exact ⟨_, bits_or8 n m hn hm, by omega, by omega, cov_or 8 n m⟩
theorem sel_nz : ∀ l : List Int, selF l.length (tagL l) l = nz l
  | [] => rfl
  | x :: l => by
    rw [List.length_cons, selF, tagL_mod, tagL_div, nz_cons]
    simp only [List.headD_cons, List.tail_cons, sel_nz l]
    by_cases h : x = 0
    · simp [h]
    · simp [h]
theorem selF_B (n : Nat) : ∀ (t : Int) (b : List Int), IsB b → IsB (selF n t b) := by
  induction n with
  | zero => intro t b _; exact IsB.nil
  | succ n ih =>
    intro t b hB
    have ht : IsB b.tail := fun x hx => hB x (List.mem_of_mem_tail hx)
    rw [selF]
    by_cases q : t % 2 = 1
    · rw [if_pos q]
      cases b with
      | nil => exact IsB.cons (by decide) (by decide) (ih _ _ ht)
      | cons x b => exact IsB.cons (hB x List.mem_cons_self).1 (hB x List.mem_cons_self).2 (ih _ _ ht)
    · rw [if_neg q]; exact ih _ _ ht
theorem selF_le (n : Nat) : ∀ (t : Int) (b : List Int), (selF n t b).length ≤ n := by
  induction n with
  | zero => intro t b; exact Nat.le_refl _
  | succ n ih =>
    intro t b
    have := ih (t / 2) b.tail
    rw [selF]
    by_cases q : t % 2 = 1
    · rw [if_pos q, List.length_cons]; omega
    · rw [if_neg q]; omega
theorem bytes_one (w : Int) : bytesS [w] = bs 8 w := by simp [bytesS]
theorem dec_tagged {w T : Int} (h0 : 0 ≤ w) (h1 : w < 18446744073709551616) (t0 : 0 ≤ T) (T0 : T ≠ 0) (T1 : T ≠ 255) (h : covF 8 T (ofS w) = true) : decS (T :: selF 8 T (bs 8 w)) = ([w], false) := by
  have hl : (selF 8 T (bs 8 w)).length = onesS T := selF_length 8 T _ t0
  rw [decS_tag T0 T1 (by omega), exp_sel_word h0 h1 h, List.drop_of_length_le (by omega), decS_nil]
theorem pack_tagged {w T : Int} (T0 : T ≠ 0) (T1 : T ≠ 255) : (T :: selF 8 T (bs 8 w) = packS [w]) ↔ T = ofS w := by
  rw [packS_cons]
  by_cases e0 : ofS w = 0
  · rw [if_pos e0, e0]
    exact ⟨fun h => (List.cons.inj h).1, fun h => absurd h T0⟩
  · rw [if_neg e0]
    by_cases e1 : ofS w = 255
    · rw [if_pos e1, e1]
      exact ⟨fun h => (List.cons.inj h).1, fun h => absurd h T1⟩
    · rw [if_neg e1]
      refine ⟨fun h => (List.cons.inj h).1, fun h => ?_⟩
      have := sel_nz (bs 8 w)
      rw [bs_length] at this
      rw [h, packS_nil, List.append_nil]
      exact congrArg _ this
theorem exp_full {w : Int} (h0 : 0 ≤ w) (h1 : w < 18446744073709551616) : expS 255 (bs 8 w) = w := by
  have hl := bs_length 8 w
  rw [expS_255 (by omega), List.take_of_length_le (by omega), val_bs8 h0 h1]
theorem words_one {v : Int} (h0 : 0 ≤ v) (h1 : v < 18446744073709551616) : wordsS (bs 8 v) = [v] := by
  rw [← bytes_one, wordsS_bytesS _ (IsW.cons h0 h1 IsW.nil)]
theorem dec_split {w v : Int} (h0 : 0 ≤ w) (h1 : w < 18446744073709551616) (v0 : 0 ≤ v) (v1 : v < 18446744073709551616) : decS (255 :: (bs 8 w ++ 0 :: 255 :: (bs 8 v ++ [0]))) = ([w, v], false) := by
  rw [decS_full (bs_length 8 w), if_neg (by simp), exp_full h0 h1]
  simp only [Int.toNat_zero, Nat.mul_zero, List.take_zero, List.drop_zero]
  rw [decS_full (bs_length 8 v), if_neg (by simp), exp_full v0 v1]
  rfl
theorem dec_joined {w v : Int} (h0 : 0 ≤ w) (h1 : w < 18446744073709551616) (v0 : 0 ≤ v) (v1 : v < 18446744073709551616) : decS (255 :: (bs 8 w ++ 1 :: bs 8 v)) = ([w, v], false) := by
  have hl := bs_length 8 v
  rw [decS_full (bs_length 8 w), show (1 : Int).toNat = 1 from rfl, if_neg (by omega), exp_full h0 h1, List.take_of_length_le (by omega), List.drop_of_length_le (by omega), words_one v0 v1, decS_nil]
  rfl
theorem split_not (w v : Int) : ¬ 255 :: (bs 8 w ++ 0 :: 255 :: (bs 8 v ++ [0])) = packS [w, v] := by
  intro h
  rw [packS_cons] at h
  by_cases e0 : ofS w = 0
  · rw [if_pos e0, e0] at h; exact absurd (List.cons.inj h).1 (by decide)
  · rw [if_neg e0] at h
    by_cases e1 : ofS w = 255
    · rw [if_pos e1] at h
      have h2 := (List.cons.inj h).2
      have hn := ofS_full e1
      have h3 := List.append_inj h2 (by rw [bs_length, hn])
      have h4 := List.cons.inj h3.2
      by_cases hd : denseS v = true
      · have : runP denseS 255 [v] = 1 := by simp only [runP, if_pos hd]
        rw [this] at h4
        exact absurd h4.1 (by decide)
      · have hr : runP denseS 255 [v] = 0 := by simp only [runP, if_neg hd]
        rw [hr] at h4
        have h5 : 255 :: (bs 8 v ++ [0]) = packS [v] := by simpa [bytesS] using h4.2
        have hv : ofS v ≠ 255 := fun hv => hd (by rw [denseS, ofS_full hv]; rfl)
        rw [packS_cons] at h5
        by_cases z0 : ofS v = 0
        · rw [if_pos z0, z0] at h5; exact absurd (List.cons.inj h5).1 (by decide)
        · rw [if_neg z0, if_neg hv] at h5
          exact hv (List.cons.inj h5).1.symm
    · rw [if_neg e1] at h; exact e1 (List.cons.inj h).1.symm
end Go.Proofs.YtnchacmhjbkmhaaDoor.Un
