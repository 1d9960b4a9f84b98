/- The printed functions of the law FrBase hold what their plain specifications say. -/
import Derived.Test.YthghblmffdfbaaaGreatDoorPFrBasex1H
import Derived.Test.YthghblmffdfbaaaGreatDoorPFrBasex2H
import Derived.Test.YthghblmffdfbaaaGreatDoorPFrBasex3H
import Derived.Test.YthghblmffdfbaaaGreatDoorPFrBasex4H
import Derived.Test.YthghblmffdfbaaaGreatDoorM6H
namespace Go.Proofs.YthghblmffdfbaaaGreatDoor.QFrBase
open Go Go.RowKit Go.Proofs.YthghblmffdfbaaaGreatDoor Go.Proofs.YthghblmffdfbaaaGreatDoor.M Go.Proofs.YthghblmffdfbaaaGreatDoor.PFrBase Go.Proofs.YthghblmffdfbaaaGreatDoorW.PrintWords Go.Proofs.YthghblmffdfbaaaGreatDoorW.PrintLast Go.Proofs.YthghblmffdfbaaaGreatDoorW.PrintMore
set_option linter.unusedVariables false
set_option linter.unusedSimpArgs false
set_option maxRecDepth 10000
set_option maxHeartbeats 1000000
theorem frTable (n : Nat) (hn : n ≤ 1000000) : frame_TableBytes.f (n : Int) = some (((4 * (n + 1) + 7) / 8 * 8 : Nat) : Int) := by
  unfold frame_TableBytes.f
  have e1 : wrap64 ((n : Int) + 1) = (n : Int) + 1 := w64 (by omega) (by omega)
  rw [e1]
  have e2 : wrap64 (4 * ((n : Int) + 1)) = 4 * ((n : Int) + 1) := w64 (by omega) (by omega)
  rw [e2]
  have e3 : wrap64 (4 * ((n : Int) + 1) + 8) = 4 * ((n : Int) + 1) + 8 := w64 (by omega) (by omega)
  rw [e3]
  have e4 : wrap64 (4 * ((n : Int) + 1) + 8 - 1) = 4 * ((n : Int) + 1) + 8 - 1 := w64 (by omega) (by omega)
  rw [e4, Int.tdiv_eq_ediv_of_nonneg (by omega)]
  have e5 : wrap64 ((4 * ((n : Int) + 1) + 8 - 1) / 8) = (4 * ((n : Int) + 1) + 8 - 1) / 8 := w64 (by omega) (by omega)
  rw [e5, w64 (by omega) (by omega)]
  congr 1
  omega
theorem frZero_l0 (l : List Int) (hl : l.length ≤ 1000000000) : ∀ d i : Nat, i + d = l.length → Ev (fun k => frame_zero.l0 k l (l.length : Int) (i : Int)) ((l.drop i).all (· == 0)) := by
  intro d
  induction d with
  | zero =>
    intro i hi
    rw [List.drop_of_length_le (by omega)]
    exact Ev.step (f := fun _ => some true) (fun k => by simp only [frame_zero.l0]; rw [if_neg (by omega)]) (Ev.now _)
  | succ d ih =>
    intro i hi
    have hlt : i < l.length := by omega
    have hd : l.drop i = rd l (i : Int) :: l.drop (i + 1) := by
      rw [List.drop_eq_getElem_cons hlt]; congr 1
      simp [rd, List.getD_eq_getElem?_getD, List.getElem?_eq_getElem hlt]
    rw [hd, List.all_cons]
    by_cases h0 : rd l (i : Int) = 0
    · rw [h0, show ((0 : Int) == 0) = true from rfl, Bool.true_and]
      refine Ev.step (fun k => ?_) (ih (i + 1) (by omega))
      simp only [frame_zero.l0]
      rw [if_pos (by omega), if_pos (by omega), if_pos (by omega), if_pos h0, wrap_succ i (by omega)]
    · rw [show (rd l (i : Int) == 0) = false by simpa using h0, Bool.false_and]
      refine Ev.step (f := fun _ => some false) (fun k => ?_) (Ev.now _)
      simp only [frame_zero.l0]
      rw [if_pos (by omega), if_pos (by omega), if_pos (by omega), if_neg h0]
theorem frZero (l : List Int) (hl : l.length ≤ 1000000000) : Ev (fun k => frame_zero.f k l) (l.all (· == 0)) := by
  have := frZero_l0 l hl l.length 0 (by omega)
  rw [List.drop_zero] at this
  exact this
theorem or_val {n i : Nat} {x : Int} (hn : n < 2 ^ i) (h0 : 0 ≤ x) (h1 : x < 256) (hi : i ≤ 56) : Go.bits .or .u64 (n : Int) (shl .u64 (IntKind.u64.wrap x) (i : Int)) = (n : Int) + x * 2 ^ i := by
  obtain ⟨m, rfl⟩ := Int.eq_ofNat_of_zero_le h0
  have hp : (2 : Nat) ^ i ≤ 2 ^ 56 := Nat.pow_le_pow_right (by decide) hi
  have hm : m * 2 ^ i < 2 ^ 64 := by
    have : m * 2 ^ i ≤ 255 * 2 ^ 56 := Nat.mul_le_mul (by omega) hp
    omega
  rw [wu (by omega) (by omega), shl_nat _ _ (by omega) (by omega), Nat.shiftLeft_eq, Int.toNat_natCast, Nat.mod_eq_of_lt (by omega), bits_or _ _ (by omega) (by omega), Nat.or_comm, Nat.mul_comm, ← Nat.two_pow_add_eq_or_of_lt hn, Nat.mul_comm]
  simp; omega
theorem wordGet_step (b : List Int) (i : Nat) (hb : b.length ≤ 140737488351232) (hi : i < b.length / 8) (j : Nat) (hj : j < 8) (acc : Int) (k : Nat) : word_Get.l0 (k + 1) b (i : Int) acc (j : Int) = word_Get.l0 k b (i : Int) (Go.bits .or .u64 acc (shl .u64 (IntKind.u64.wrap (rd b ((8 * i + j : Nat) : Int))) ((8 * j : Nat) : Int))) ((j + 1 : Nat) : Int) := by
  have e0 : wrap64 (8 * (i : Int)) = 8 * (i : Int) := w64 (by omega) (by omega)
  have e1 : wrap64 (wrap64 (8 * (i : Int)) + (j : Int)) = ((8 * i + j : Nat) : Int) := by rw [e0, w64 (by omega) (by omega)]; omega
  have e2 : IntKind.u64.wrap (wrap64 (8 * (j : Int))) = ((8 * j : Nat) : Int) := by rw [w64 (by omega) (by omega), wu (by omega) (by omega)]; omega
  simp only [word_Get.l0]
  rw [if_pos (by omega), e1, if_pos (by omega), if_pos (by omega), e2, if_pos (by omega), w64 (by omega) (by omega), show (j : Int) + 1 = ((j + 1 : Nat) : Int) by omega]
theorem chunk_rd {b : List Int} {i : Nat} (hi : i < b.length / 8) {j : Nat} (hj : j < 8) : rd (chunk b i) (j : Int) = rd b ((8 * i + j : Nat) : Int) := by
  have hl := chunk_length hi
  rw [rd_lt (by omega), rd_lt (by omega)]
  simp [chunk]
theorem wordGet_l0 (b : List Int) (hB : IsB b) (i : Nat) (hb : b.length ≤ 140737488351232) (hi : i < b.length / 8) : ∀ d j : Nat, j + d = 8 → ∀ acc : Int, acc = val ((chunk b i).take j) → Ev (fun k => word_Get.l0 k b (i : Int) acc (j : Int)) (getS b i, true) := by
  intro d
  induction d with
  | zero =>
    intro j hj acc h
    refine Ev.step (f := fun _ => some (acc, true)) (fun k => ?_) ?_
    · simp only [word_Get.l0]; rw [if_neg (by omega)]
    · rw [h, List.take_of_length_le (by rw [chunk_length hi]; omega)]; exact Ev.now _
  | succ d ih =>
    intro j hj acc h
    have hC := chunk_B hB i
    have hl := chunk_length hi
    have hj8 : j < 8 := by omega
    have hjl : j < (chunk b i).length := by omega
    have ht : ((chunk b i).take j).length = j := by rw [List.length_take]; omega
    refine Ev.step (wordGet_step b i hb hi j hj8 acc) (ih (j + 1) (by omega) _ ?_)
    have h56 : 8 * j ≤ 56 := by omega
    rw [take_rd hjl, val_append, ← h, ht, ← chunk_rd hi hj8]
    have hacc0 := val_nonneg _ (hC.take j)
    have hacc1 := val_lt _ (hC.take j)
    have e256 : (256 : Int) ^ j = 2 ^ (8 * j) := by rw [Int.pow_mul]; rfl
    rw [ht, e256, ← h] at hacc1
    rw [← h] at hacc0
    obtain ⟨n, rfl⟩ := Int.eq_ofNat_of_zero_le hacc0
    have hn : n < 2 ^ (8 * j) := by exact_mod_cast hacc1
    have hx := rd_B hC (j : Int)
    rw [or_val hn hx.1 hx.2 h56, e256, Int.mul_comm]
    simp [val]
theorem wordGet_yes (b : List Int) (hB : IsB b) (i : Nat) (hb : b.length ≤ 140737488351232) (hi : i < b.length / 8) : Ev (fun k => word_Get.f k b (i : Int)) (getS b i, true) := by
  refine Ev.congr (f := fun k => word_Get.j0 k b (i : Int) false) (fun k => ?_) (Ev.step (f := fun k => word_Get.l0 k b (i : Int) 0 ((0 : Nat) : Int)) (fun k => ?_) (wordGet_l0 b hB i hb hi 8 0 rfl 0 rfl))
  · unfold word_Get.f
    rw [if_neg (by omega), w64 (by omega) (by omega), decide_eq_false (by omega)]
  · simp only [word_Get.j0]; rfl
theorem wordGet_no (b : List Int) (i : Int) (hb : b.length ≤ 140737488351232) (hi : i < 0 ∨ (b.length : Int) / 8 ≤ i) : Ev (fun k => word_Get.f k b i) (0, false) := by
  refine Ev.congr (f := fun k => word_Get.j0 k b i true) (fun k => ?_) (Ev.step (f := fun _ => some (0, false)) (fun k => ?_) (Ev.now _))
  · unfold word_Get.f
    by_cases h : i < 0
    · rw [if_pos h]
    · rw [if_neg h, w64 (by omega) (by omega), decide_eq_true (by omega)]
  · simp only [word_Get.j0]; rfl
theorem wordWords_l0 (b : List Int) (hB : IsB b) (hb : b.length ≤ 140737488351232) : ∀ d i : Nat, i + d = b.length / 8 → ∀ acc : List Int, acc = (List.range i).map (getS b) → Ev (fun k => word_Words.l0 k b acc ((b.length / 8 : Nat) : Int) (i : Int)) (wordsS b, true) := by
  intro d
  induction d with
  | zero =>
    intro i hi acc h
    refine Ev.step (f := fun _ => some (acc, true)) (fun k => ?_) ?_
    · simp only [word_Words.l0]; rw [if_neg (by omega)]
    · rw [h, show i = b.length / 8 by omega]; exact Ev.now _
  | succ d ih =>
    intro i hi acc h
    have hl : acc.length = i := by rw [h]; simp
    refine Ev.step (f := fun k => (word_Get.f k b (i : Int)).bind fun t => word_Words.l0 k b (acc ++ [t.1]) ((b.length / 8 : Nat) : Int) ((i + 1 : Nat) : Int)) (fun k => ?_) (Ev.bind (wordGet_yes b hB i hb (by omega)) (ih (i + 1) (by omega) _ ?_))
    · simp only [word_Words.l0]
      rw [if_pos (by omega), w64 (by omega) (by omega), show (i : Int) + 1 = ((i + 1 : Nat) : Int) by omega]
      simp only [if_pos (show acc.length < 17592186044416 by omega)]
    · rw [h, List.range_succ, List.map_append]; rfl
theorem wordWords_yes (b : List Int) (hB : IsB b) (hb : b.length ≤ 140737488351232) (h8 : b.length % 8 = 0) : Ev (fun k => word_Words.f k b) (wordsS b, true) := by
  refine Ev.congr (fun k => ?_) (wordWords_l0 b hB hb (b.length / 8) 0 (by omega) [] rfl)
  unfold word_Words.f
  rw [if_pos (by omega), w64 (by omega) (by omega), if_pos (by omega), if_pos (by omega)]; rfl
theorem wordWords_no (b : List Int) (h8 : b.length % 8 ≠ 0) : Ev (fun k => word_Words.f k b) ([], false) := by
  refine Ev.congr (fun k => ?_) (Ev.now _)
  unfold word_Words.f
  rw [if_neg (by omega)]
theorem wordBytes_l1 (x5 : Int) (x11 : List Int) (x12 x13 r) : ∀ d j : Nat, j + d = 8 → ∀ x3 : List Int, x3.length + d < 140737488355328 → Ev (fun k => word_Bytes.l0 k (x3 ++ bs d (x5 / 256 ^ j)) x11 x12 (wrap64 (x13 + 1))) r → Ev (fun k => word_Bytes.l1 k x3 x5 x11 x12 x13 (j : Int)) r := by
  intro d
  induction d with
  | zero =>
    intro j hj x3 hl h
    obtain rfl : j = 8 := by omega
    refine Ev.step (fun k => ?_) h
    simp only [word_Bytes.l1]
    rw [if_neg (by omega)]
    simp [bs]
  | succ d ih =>
    intro j hj x3 hl h
    refine Ev.step (f := fun k => word_Bytes.l1 k (x3 ++ [x5 / 256 ^ j % 256]) x5 x11 x12 x13 ((j + 1 : Nat) : Int)) (fun k => ?_) (ih (j + 1) (by omega) _ (by simp; omega) ?_)
    · simp only [word_Bytes.l1]
      rw [if_pos (by omega), if_pos (by rw [w64 (by omega) (by omega), wu (by omega) (by omega)]; omega), if_pos (by omega), shr8 _ _ (by omega), w64 (by omega) (by omega), show (j : Int) + 1 = ((j + 1 : Nat) : Int) by omega]
    · rw [List.append_assoc, List.singleton_append, Int.pow_succ, ← Int.ediv_ediv_of_nonneg (Int.pow_nonneg (by decide))]; exact h
theorem wordBytes_l0 (x0 : List Int) (hx : x0.length * 8 < 140737488355328) : ∀ d i : Nat, i + d = x0.length → ∀ x3 : List Int, x3 = bytesS (x0.take i) → Ev (fun k => word_Bytes.l0 k x3 x0 (x0.length : Int) (i : Int)) (bytesS x0) := by
  intro d
  induction d with
  | zero =>
    intro i hi x3 h
    refine Ev.step (f := fun _ => some x3) (fun k => ?_) ?_
    · simp only [word_Bytes.l0]; rw [if_neg (by omega)]
    · rw [h, List.take_of_length_le (by omega)]; exact Ev.now _
  | succ d ih =>
    intro i hi x3 h
    refine Ev.step (f := fun k => word_Bytes.l1 k x3 (rd x0 (i : Int)) x0 (x0.length : Int) (i : Int) ((0 : Nat) : Int)) (fun k => ?_) (wordBytes_l1 _ x0 _ _ _ 8 0 rfl _ ?_ ?_)
    · simp only [word_Bytes.l0]; rw [if_pos (by omega), if_pos (by omega), if_pos (by omega)]; rfl
    · rw [h, bytesS_length, List.length_take]; omega
    · rw [w64 (by omega) (by omega), show (i : Int) + 1 = ((i + 1 : Nat) : Int) by omega]
      refine ih (i + 1) (by omega) _ ?_
      rw [take_rd (by omega), bytesS_append, h]; simp [bytesS]
theorem wordBytes (l : List Int) (hx : l.length * 8 < 140737488355328) : Ev (fun k => word_Bytes.f k l) (bytesS l) := by
  refine Ev.congr (fun k => ?_) (wordBytes_l0 l hx l.length 0 (by omega) [] rfl)
  unfold word_Bytes.f
  rw [if_pos (by rw [w64 (by omega) (by omega)]; omega), if_pos (by rw [w64 (by omega) (by omega)]; omega)]
  rfl
theorem wordMask (n : Nat) (h0 : 1 ≤ n) (h1 : n ≤ 64) : word_mask.f (n : Int) = some ((2 ^ n - 1 : Nat) : Int) := by
  unfold word_mask.f
  rw [w64 (by omega) (by omega), wu (by omega) (by omega), if_pos (by omega)]
  rw [show (18446744073709551615 : Int) = ((18446744073709551615 : Nat) : Int) from rfl, shr_nat _ _ (by omega) (by omega), show (64 - (n : Int)).toNat = 64 - n by omega, mask_eq n h1]
theorem wordField (W at_ n : Nat) (hW : W < 18446744073709551616) (h0 : 1 ≤ n) (h1 : at_ + n ≤ 64) : word_Field.f (W : Int) (at_ : Int) (n : Int) = some ((fieldS W at_ n : Nat) : Int) := by
  unfold word_Field.f
  have hp := two_pow_le64 (n := n) (by omega)
  rw [wu (by omega) (by omega), if_pos (by omega), wordMask n h0 (by omega), Option.bind_some, shr_nat _ _ (by omega) (by omega), Int.toNat_natCast, bits_and _ _ ?_ (by omega), Nat.and_two_pow_sub_one_eq_mod, Nat.shiftRight_eq_div_pow]
  · rfl
  · rw [Nat.shiftRight_eq_div_pow]; exact Nat.lt_of_le_of_lt (Nat.div_le_self _ _) hW
theorem wordSigned (W at_ n : Nat) (hW : W < 18446744073709551616) (h0 : 1 ≤ n) (h1 : at_ + n ≤ 64) : word_Signed.f (W : Int) (at_ : Int) (n : Int) = some (sgnS (fieldS W at_ n) n) := by
  unfold word_Signed.f
  have e1 : IntKind.u64.wrap (wrap64 (wrap64 (64 - (at_ : Int)) - (n : Int))) = ((64 - at_ - n : Nat) : Int) := by
    rw [w64 (x := 64 - (at_ : Int)) (by omega) (by omega), w64 (by omega) (by omega), wu (by omega) (by omega)]; omega
  have e2 : IntKind.u64.wrap (wrap64 (64 - (n : Int))) = ((64 - n : Nat) : Int) := by
    rw [w64 (by omega) (by omega), wu (by omega) (by omega)]; omega
  rw [e1, e2, if_pos (by omega), if_pos (by omega), shl_nat _ _ (by omega) (by omega), Int.toNat_natCast, Nat.shiftLeft_eq]
  unfold shr
  rw [show (IntKind.i64.bits : Nat) = 64 from rfl, Int.toNat_natCast, Nat.min_eq_left (by omega)]
  have := signed_eq W at_ n h0 h1
  rw [Int.natCast_pow] at this
  exact congrArg some this
theorem wordInsert (W at_ n V : Nat) (hW : W < 18446744073709551616) (hV : V < 18446744073709551616) (h0 : 1 ≤ n) (h1 : at_ + n ≤ 64) : ∃ R : Nat, word_Insert.f (W : Int) (at_ : Int) (n : Int) (V : Int) = some (R : Int) ∧ R < 18446744073709551616 ∧ ∀ i, R.testBit i = insB W at_ n V i := by
  unfold word_Insert.f
  have hp := two_pow_le64 (n := n) (by omega)
  rw [wordMask n h0 (by omega), Option.bind_some, wu (by omega) (by omega), if_pos (by omega), shl_nat _ _ (by omega) (by omega), shl_nat _ _ (by omega) (by omega), Int.toNat_natCast]
  have hmb : ∀ i, ((2 ^ n - 1) <<< at_ % 18446744073709551616).testBit i = (decide (at_ ≤ i ∧ i < at_ + n)) := by
    intro i
    rw [show (18446744073709551616 : Nat) = 2 ^ 64 from rfl, Nat.testBit_mod_two_pow, Nat.testBit_shiftLeft, Nat.testBit_two_pow_sub_one]
    by_cases h : at_ ≤ i ∧ i < at_ + n
    · rw [decide_eq_true h, decide_eq_true (show i < 64 by omega), decide_eq_true (show i ≥ at_ by omega), decide_eq_true (show i - at_ < n by omega)]; rfl
    · rw [decide_eq_false h]
      by_cases h2 : i ≥ at_
      · rw [decide_eq_false (show ¬ (i - at_ < n) by omega)]; simp
      · rw [decide_eq_false h2]; simp
  generalize hM : (2 ^ n - 1) <<< at_ % 18446744073709551616 = M at *
  have hM64 : M < 2 ^ 64 := by rw [← hM]; exact Nat.mod_lt _ (by decide)
  have hvb : ∀ i, (V <<< at_ % 18446744073709551616).testBit i = (decide (i < 64) && (decide (i ≥ at_) && V.testBit (i - at_))) := by
    intro i
    rw [show (18446744073709551616 : Nat) = 2 ^ 64 from rfl, Nat.testBit_mod_two_pow, Nat.testBit_shiftLeft]
  have hX64 : V <<< at_ % 18446744073709551616 < 2 ^ 64 := Nat.mod_lt _ (by decide)
  generalize hX : V <<< at_ % 18446744073709551616 = X at *
  obtain ⟨r, hr, hr64, hrb⟩ := bits_andNot W M hW hM64
  have hA : X &&& M < 2 ^ 64 := Nat.and_lt_two_pow _ hM64
  refine ⟨r ||| (X &&& M), ?_, Nat.or_lt_two_pow hr64 hA, fun i => ?_⟩
  · rw [hr, bits_and _ _ hX64 hM64, bits_or _ _ hr64 hA]
  · rw [Nat.testBit_or, hrb, Nat.testBit_and, hmb, hvb, insB]
    by_cases h : at_ ≤ i ∧ i < at_ + n
    · rw [decide_eq_true h, if_pos h, decide_eq_true (show i < 64 by omega), decide_eq_true (show i ≥ at_ by omega)]; simp
    · rw [decide_eq_false h, if_neg h]; simp
end Go.Proofs.YthghblmffdfbaaaGreatDoor.QFrBase
