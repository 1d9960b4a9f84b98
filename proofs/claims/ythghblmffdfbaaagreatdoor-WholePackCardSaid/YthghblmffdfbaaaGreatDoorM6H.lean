/- Plain facts on numbers, bits, bytes and words that the pure statements of this seat use; no program in sight. -/
import Derived.Test.YthghblmffdfbaaaGreatDoorWWordsH
import Derived.Test.YthghblmffdfbaaaGreatDoorWMoreH

namespace Go.Proofs.YthghblmffdfbaaaGreatDoor.M
open Go Go.RowKit Go.Proofs.YthghblmffdfbaaaGreatDoorW.PrintWords Go.Proofs.YthghblmffdfbaaaGreatDoorW.PrintLast Go.Proofs.YthghblmffdfbaaaGreatDoorW.PrintMore
set_option linter.unusedVariables false
set_option linter.unusedSimpArgs false
theorem wf_u8 {x : Int} (h : (Lit.int .u8 x).wf = true) : 0 ≤ x ∧ x < 256 := by
  simp [Lit.wf, IntKind.min, IntKind.max, IntKind.signed, IntKind.bits] at h; omega
theorem wf_i64 {x : Int} (h : (Lit.int .i64 x).wf = true) : -9223372036854775808 ≤ x ∧ x < 9223372036854775808 := by
  simp [Lit.wf, IntKind.min, IntKind.max, IntKind.signed, IntKind.bits] at h; omega
theorem w64 {x : Int} (h0 : -9223372036854775808 ≤ x) (h1 : x < 9223372036854775808) : wrap64 x = x := by unfold wrap64; omega
theorem wu_mod (x : Int) : IntKind.u64.wrap x = x % 18446744073709551616 := by
  simp [IntKind.wrap, IntKind.signed, IntKind.bits]
theorem wu {x : Int} (h0 : 0 ≤ x) (h1 : x < 18446744073709551616) : IntKind.u64.wrap x = x := by
  rw [wu_mod]; omega
theorem shr_nat (n : Nat) (y : Int) (h0 : 0 ≤ y) (h1 : y ≤ 64) : shr .u64 (n : Int) y = ((n >>> y.toNat : Nat) : Int) := by
  unfold shr
  rw [show (IntKind.u64.bits : Nat) = 64 from rfl, Nat.min_eq_left (by omega), Nat.shiftRight_eq_div_pow]
  simp
theorem shl_nat (n : Nat) (y : Int) (h0 : 0 ≤ y) (h1 : y ≤ 64) : shl .u64 (n : Int) y = ((n <<< y.toNat % 18446744073709551616 : Nat) : Int) := by
  unfold shl
  rw [show (IntKind.u64.bits : Nat) = 64 from rfl, Nat.min_eq_left (by omega), Nat.shiftLeft_eq, wu_mod]
  simp
theorem ofInt_nat (n : Nat) : BitVec.ofInt 64 (n : Int) = BitVec.ofNat 64 n := by
  apply BitVec.eq_of_toNat_eq; simp
theorem bits_or (n m : Nat) (hn : n < 2 ^ 64) (hm : m < 2 ^ 64) : Go.bits .or .u64 (n : Int) (m : Int) = ((n ||| m : Nat) : Int) := by
  show IntKind.u64.wrap (((BitVec.ofInt 64 (n : Int)) ||| (BitVec.ofInt 64 (m : Int))).toNat : Int) = _
  rw [ofInt_nat, ofInt_nat]
  have h : (BitVec.ofNat 64 n ||| BitVec.ofNat 64 m).toNat = n ||| m := by
    rw [BitVec.toNat_or, BitVec.toNat_ofNat, BitVec.toNat_ofNat, Nat.mod_eq_of_lt hn, Nat.mod_eq_of_lt hm]
  rw [h]
  exact wu (by omega) (by have := Nat.or_lt_two_pow hn hm; omega)
theorem bits_and (n m : Nat) (hn : n < 2 ^ 64) (hm : m < 2 ^ 64) : Go.bits .and .u64 (n : Int) (m : Int) = ((n &&& m : Nat) : Int) := by
  show IntKind.u64.wrap (((BitVec.ofInt 64 (n : Int)) &&& (BitVec.ofInt 64 (m : Int))).toNat : Int) = _
  rw [ofInt_nat, ofInt_nat]
  have h : (BitVec.ofNat 64 n &&& BitVec.ofNat 64 m).toNat = n &&& m := by
    rw [BitVec.toNat_and, BitVec.toNat_ofNat, BitVec.toNat_ofNat, Nat.mod_eq_of_lt hn, Nat.mod_eq_of_lt hm]
  rw [h]
  exact wu (by omega) (by have := Nat.and_lt_two_pow n hm; omega)
theorem bits_andNot (n m : Nat) (hn : n < 2 ^ 64) (hm : m < 2 ^ 64) : ∃ r : Nat, Go.bits .andNot .u64 (n : Int) (m : Int) = (r : Int) ∧ r < 2 ^ 64 ∧ ∀ i, r.testBit i = (n.testBit i && !m.testBit i) := by
  refine ⟨(BitVec.ofNat 64 n &&& ~~~ BitVec.ofNat 64 m).toNat, ?_, BitVec.isLt _, fun i => ?_⟩
  · show IntKind.u64.wrap (((BitVec.ofInt 64 (n : Int)) &&& ~~~ (BitVec.ofInt 64 (m : Int))).toNat : Int) = _
    rw [ofInt_nat, ofInt_nat]
    exact wu (by omega) (by have := (BitVec.ofNat 64 n &&& ~~~ BitVec.ofNat 64 m).isLt; omega)
  · rw [BitVec.toNat_and, Nat.testBit_and, BitVec.toNat_ofNat, Nat.mod_eq_of_lt hn]
    by_cases hi : i < 64
    · have : (~~~ BitVec.ofNat 64 m).toNat.testBit i = !m.testBit i := by
        rw [BitVec.testBit_toNat, BitVec.getLsbD_not, ← BitVec.testBit_toNat, BitVec.toNat_ofNat, Nat.mod_eq_of_lt hm]
        simp [hi]
      rw [this]
    · have h1 : n.testBit i = false := Nat.testBit_lt_two_pow (Nat.lt_of_lt_of_le hn (Nat.pow_le_pow_right (by decide) (by omega)))
      simp [h1]
theorem Ev.at {α : Type} {g : Nat → Option α} {r : α} (h : Ev g r) : ∃ K, ∀ j, g (K + j) = some r := by
  obtain ⟨K, hK⟩ := h
  exact ⟨K, fun j => hK _ (by omega)⟩
end Go.Proofs.YthghblmffdfbaaaGreatDoor.M

/- Plain facts on words and their bytes: the little-endian value of bytes, the bytes of a word, both ways; no program in sight. -/
namespace Go.Proofs.YthghblmffdfbaaaGreatDoor.M
open Go Go.RowKit Go.Proofs.YthghblmffdfbaaaGreatDoorW.PrintWords Go.Proofs.YthghblmffdfbaaaGreatDoorW.PrintLast Go.Proofs.YthghblmffdfbaaaGreatDoorW.PrintMore
set_option linter.unusedVariables false
set_option linter.unusedSimpArgs false
def IsB (l : List Int) : Prop := ∀ x ∈ l, 0 ≤ x ∧ x < 256
def IsW (l : List Int) : Prop := ∀ x ∈ l, 0 ≤ x ∧ x < 18446744073709551616
theorem IsB.take {l : List Int} (h : IsB l) (n : Nat) : IsB (l.take n) := fun x hx => h x (List.mem_of_mem_take hx)
theorem IsB.drop {l : List Int} (h : IsB l) (n : Nat) : IsB (l.drop n) := fun x hx => h x (List.mem_of_mem_drop hx)
theorem IsW.take {l : List Int} (h : IsW l) (n : Nat) : IsW (l.take n) := fun x hx => h x (List.mem_of_mem_take hx)
theorem IsW.drop {l : List Int} (h : IsW l) (n : Nat) : IsW (l.drop n) := fun x hx => h x (List.mem_of_mem_drop hx)
theorem IsB.append {l m : List Int} (h : IsB l) (h' : IsB m) : IsB (l ++ m) := fun x hx => by
  rcases List.mem_append.mp hx with hx | hx
  · exact h x hx
  · exact h' x hx
theorem IsW.append {l m : List Int} (h : IsW l) (h' : IsW m) : IsW (l ++ m) := fun x hx => by
  rcases List.mem_append.mp hx with hx | hx
  · exact h x hx
  · exact h' x hx
theorem IsB.cons {x : Int} {l : List Int} (h0 : 0 ≤ x) (h1 : x < 256) (h : IsB l) : IsB (x :: l) := fun y hy => by
  rcases List.mem_cons.mp hy with rfl | hy
  · exact ⟨h0, h1⟩
  · exact h y hy
theorem IsW.cons {x : Int} {l : List Int} (h0 : 0 ≤ x) (h1 : x < 18446744073709551616) (h : IsW l) : IsW (x :: l) := fun y hy => by
  rcases List.mem_cons.mp hy with rfl | hy
  · exact ⟨h0, h1⟩
  · exact h y hy
theorem IsB.nil : IsB [] := fun x hx => by simp at hx
theorem IsW.nil : IsW [] := fun x hx => by simp at hx
theorem rd_lt {l : List Int} {i : Nat} (h : i < l.length) : rd l (i : Int) = l[i] := by simp [rd, h]
theorem rd_B {l : List Int} (h : IsB l) (i : Int) : 0 ≤ rd l i ∧ rd l i < 256 := by
  unfold rd
  by_cases hi : i.toNat < l.length
  · rw [List.getD_eq_getElem?_getD, List.getElem?_eq_getElem hi]; exact h _ (List.getElem_mem hi)
  · rw [List.getD_eq_getElem?_getD, List.getElem?_eq_none (by omega)]; decide
theorem take_rd {l : List Int} {i : Nat} (h : i < l.length) : l.take (i + 1) = l.take i ++ [rd l (i : Int)] := by
  rw [rd_lt h, List.take_succ_eq_append_getElem h]
theorem drop_rd {l : List Int} {i : Nat} (h : i < l.length) : l.drop i = rd l (i : Int) :: l.drop (i + 1) := by
  rw [rd_lt h, List.drop_eq_getElem_cons h]
def val : List Int → Int
  | [] => 0
  | x :: l => x + 256 * val l
def bs : Nat → Int → List Int
  | 0, _ => []
  | n + 1, w => w % 256 :: bs n (w / 256)
theorem bs_length (n : Nat) : ∀ w, (bs n w).length = n := by
  induction n with
  | zero => intro w; rfl
  | succ n ih => intro w; simp [bs, ih]
theorem bs_B (n : Nat) : ∀ w, IsB (bs n w) := by
  induction n with
  | zero => intro w; exact IsB.nil
  | succ n ih => intro w; exact IsB.cons (by omega) (by omega) (ih _)
theorem val_nonneg : ∀ l, IsB l → 0 ≤ val l
  | [], _ => by simp [val]
  | x :: l, h => by
    have h1 := h x List.mem_cons_self
    have h2 := val_nonneg l (fun y hy => h y (List.mem_cons_of_mem _ hy))
    simp only [val]; omega
theorem val_lt : ∀ l, IsB l → val l < 256 ^ l.length
  | [], _ => by simp [val]
  | x :: l, h => by
    have h1 := h x List.mem_cons_self
    have h2 := val_lt l (fun y hy => h y (List.mem_cons_of_mem _ hy))
    simp only [val, List.length_cons, Int.pow_succ]; omega
theorem val_append (l m : List Int) : val (l ++ m) = val l + 256 ^ l.length * val m := by
  induction l with
  | nil => simp [val]
  | cons x l ih =>
    simp only [List.cons_append, val, ih, List.length_cons, Int.pow_succ]
    rw [Int.mul_add, Int.add_assoc, Int.mul_comm (256 ^ l.length) 256, Int.mul_assoc]
theorem val_bs (n : Nat) : ∀ w, val (bs n w) = w % 256 ^ n := by
  induction n with
  | zero => intro w; simp [bs, val]
  | succ n ih =>
    intro w
    simp only [bs, val, ih, Int.pow_succ]
    rw [Int.emod_def w (256 ^ n * 256), Int.mul_comm (256 ^ n) 256, ← Int.ediv_ediv_of_nonneg (by decide), Int.emod_def (w / 256), Int.emod_def w 256, Int.mul_sub, ← Int.mul_assoc]
    omega
theorem bs_val : ∀ l, IsB l → bs l.length (val l) = l
  | [], _ => by simp [bs]
  | x :: l, h => by
    have h1 := h x List.mem_cons_self
    have h2 := bs_val l (fun y hy => h y (List.mem_cons_of_mem _ hy))
    simp only [val, List.length_cons, bs]
    rw [show (x + 256 * val l) % 256 = x by omega, show (x + 256 * val l) / 256 = val l by omega, h2]
theorem pow256_8 : (256 : Int) ^ 8 = 18446744073709551616 := by decide
theorem val_bs8 {w : Int} (h0 : 0 ≤ w) (h1 : w < 18446744073709551616) : val (bs 8 w) = w := by
  rw [val_bs, pow256_8]; omega
theorem val_lt8 {l : List Int} (h : IsB l) (hl : l.length = 8) : 0 ≤ val l ∧ val l < 18446744073709551616 := by
  have := val_lt l h
  rw [hl, pow256_8] at this
  exact ⟨val_nonneg l h, this⟩
theorem bs_val8 {l : List Int} (h : IsB l) (hl : l.length = 8) : bs 8 (val l) = l := by
  have := bs_val l h
  rwa [hl] at this
theorem shr8 (w : Int) (j : Nat) (hj : j < 8) : shr .u64 w (IntKind.u64.wrap (wrap64 (8 * (j : Int)))) = w / 256 ^ j := by
  rw [w64 (by omega) (by omega), wu (by omega) (by omega)]
  unfold shr
  rw [show (IntKind.u64.bits : Nat) = 64 from rfl, Nat.min_eq_left (by omega), show (8 * (j : Int)).toNat = 8 * j by omega, Int.pow_mul]
  rfl
def chunk (b : List Int) (i : Nat) : List Int := (b.drop (8 * i)).take 8
theorem chunk_B {b : List Int} (h : IsB b) (i : Nat) : IsB (chunk b i) := (h.drop _).take _
theorem chunk_length {b : List Int} {i : Nat} (h : i < b.length / 8) : (chunk b i).length = 8 := by
  simp [chunk]; omega
def getS (b : List Int) (i : Nat) : Int := val (chunk b i)
def wordsS (b : List Int) : List Int := (List.range (b.length / 8)).map (getS b)
def bytesS (l : List Int) : List Int := l.flatMap (bs 8)
theorem getS_W {b : List Int} (h : IsB b) {i : Nat} (hi : i < b.length / 8) : 0 ≤ getS b i ∧ getS b i < 18446744073709551616 := val_lt8 (chunk_B h i) (chunk_length hi)
theorem wordsS_length (b : List Int) : (wordsS b).length = b.length / 8 := by simp [wordsS]
theorem wordsS_W {b : List Int} (h : IsB b) : IsW (wordsS b) := fun x hx => by
  simp only [wordsS, List.mem_map, List.mem_range] at hx
  obtain ⟨i, hi, rfl⟩ := hx
  exact getS_W h hi
theorem bytesS_length (l : List Int) : (bytesS l).length = 8 * l.length := by
  induction l with
  | nil => rfl
  | cons x l ih => simp only [bytesS, List.flatMap_cons, List.length_append, bs_length, List.length_cons] at *; omega
theorem bytesS_B (l : List Int) : IsB (bytesS l) := fun x hx => by
  simp only [bytesS, List.mem_flatMap] at hx
  obtain ⟨w, _, hw⟩ := hx
  exact bs_B 8 w x hw
theorem bytesS_cons (x : Int) (l : List Int) : bytesS (x :: l) = bs 8 x ++ bytesS l := rfl
theorem bytesS_append (l m : List Int) : bytesS (l ++ m) = bytesS l ++ bytesS m := by simp [bytesS]
theorem chunk_zero (b : List Int) : chunk b 0 = b.take 8 := by simp [chunk]
theorem chunk_succ (b : List Int) (i : Nat) : chunk b (i + 1) = chunk (b.drop 8) i := by
  simp only [chunk, List.drop_drop]; rw [show 8 * (i + 1) = 8 + 8 * i by omega]
theorem wordsS_short {b : List Int} (h : b.length < 8) : wordsS b = [] := by
  have : b.length / 8 = 0 := by omega
  simp [wordsS, this]
theorem wordsS_long {b : List Int} (h : 8 ≤ b.length) : wordsS b = val (b.take 8) :: wordsS (b.drop 8) := by
  have e : b.length / 8 = (b.drop 8).length / 8 + 1 := by rw [List.length_drop]; omega
  unfold wordsS
  rw [e, List.range_succ_eq_map, List.map_cons, List.map_map]
  simp only [getS, chunk_zero, List.cons.injEq, true_and]
  apply List.map_congr_left
  intro i _
  simp [getS, chunk_succ]
theorem wordsS_bytesS : ∀ l : List Int, IsW l → wordsS (bytesS l) = l
  | [], _ => by simp [bytesS, wordsS]
  | x :: l, h => by
    have h1 := h x List.mem_cons_self
    rw [bytesS_cons, wordsS_long (by simp [bs_length]), List.take_append_of_le_length (by simp [bs_length]), List.take_of_length_le (by simp [bs_length]), List.drop_append_of_le_length (by simp [bs_length]), List.drop_of_length_le (by simp [bs_length]), List.nil_append, val_bs8 h1.1 h1.2, wordsS_bytesS l (fun y hy => h y (List.mem_cons_of_mem _ hy))]
theorem bytesS_wordsS (n : Nat) : ∀ b : List Int, b.length = 8 * n → IsB b → bytesS (wordsS b) = b := by
  induction n with
  | zero => intro b hb _; have : b = [] := List.length_eq_zero_iff.mp (by omega); subst this; rfl
  | succ n ih =>
    intro b hb h
    rw [wordsS_long (by omega), bytesS_cons, bs_val8 (h.take 8) (by rw [List.length_take]; omega), ih (b.drop 8) (by rw [List.length_drop]; omega) (h.drop 8), List.take_append_drop]
end Go.Proofs.YthghblmffdfbaaaGreatDoor.M

/- Plain facts on bit fields of words; no program in sight. -/
namespace Go.Proofs.YthghblmffdfbaaaGreatDoor.M
open Go Go.RowKit Go.Proofs.YthghblmffdfbaaaGreatDoorW.PrintWords Go.Proofs.YthghblmffdfbaaaGreatDoorW.PrintLast Go.Proofs.YthghblmffdfbaaaGreatDoorW.PrintMore
set_option linter.unusedVariables false
set_option linter.unusedSimpArgs false
def fieldS (W at_ n : Nat) : Nat := W / 2 ^ at_ % 2 ^ n
def sgnS (u n : Nat) : Int := if 2 ^ (n - 1) ≤ u then (u : Int) - 2 ^ n else (u : Int)
def insB (W at_ n V i : Nat) : Bool := if at_ ≤ i ∧ i < at_ + n then V.testBit (i - at_) else W.testBit i
theorem mask_eq : ∀ n, n ≤ 64 → 18446744073709551615 >>> (64 - n) = 2 ^ n - 1 := by decide
theorem two_pow_le64 {n : Nat} (h : n ≤ 64) : 2 ^ n ≤ 18446744073709551616 := by
  have : 2 ^ n ≤ 2 ^ 64 := Nat.pow_le_pow_right (by decide) h
  exact this
theorem field_lt (W at_ n : Nat) : fieldS W at_ n < 2 ^ n := Nat.mod_lt _ (Nat.two_pow_pos n)
theorem signed_core (W at_ n : Nat) (hn : 1 ≤ n) (h : at_ + n ≤ 64) : ∃ q P : Nat, W * 2 ^ (64 - at_ - n) % 18446744073709551616 = fieldS W at_ n * P + q ∧ q < P ∧ P = 2 ^ (64 - n) ∧ P * 2 ^ (n - 1) = 9223372036854775808 ∧ P * 2 ^ n = 18446744073709551616 := by
  have h64 : 2 ^ (64 - n) * 2 ^ n = 18446744073709551616 := by rw [← Nat.pow_add, show 64 - n + n = 64 by omega]
  have h63 : 2 ^ (64 - n) * 2 ^ (n - 1) = 9223372036854775808 := by rw [← Nat.pow_add, show 64 - n + (n - 1) = 63 by omega]
  have hs : 2 ^ (at_ + n) * 2 ^ (64 - at_ - n) = 18446744073709551616 := by rw [← Nat.pow_add, show at_ + n + (64 - at_ - n) = 64 by omega]
  refine ⟨W % 2 ^ at_ * 2 ^ (64 - at_ - n), 2 ^ (64 - n), ?_, ?_, rfl, h63, h64⟩
  · rw [← hs, Nat.mul_mod_mul_right]
    have e : W % 2 ^ (at_ + n) = 2 ^ at_ * fieldS W at_ n + W % 2 ^ at_ := by
      rw [Nat.pow_add, Nat.mod_mul, fieldS, Nat.add_comm]
    rw [e, Nat.add_mul, Nat.mul_comm (2 ^ at_), Nat.mul_assoc, ← Nat.pow_add, show at_ + (64 - at_ - n) = 64 - n by omega]
  · have : 2 ^ at_ * 2 ^ (64 - at_ - n) = 2 ^ (64 - n) := by rw [← Nat.pow_add, show at_ + (64 - at_ - n) = 64 - n by omega]
    rw [← this]
    exact Nat.mul_lt_mul_of_pos_right (Nat.mod_lt _ (Nat.two_pow_pos _)) (Nat.two_pow_pos _)
theorem signed_arith (u q P T H : Nat) (hq : q < P) (h63 : P * H = 9223372036854775808) (h64 : P * T = 18446744073709551616) (hu : u < T) :
    wrap64 ((u * P + q : Nat) : Int) / (P : Int) = if H ≤ u then (u : Int) - (T : Int) else (u : Int) := by
  have hP0 : (P : Int) ≠ 0 := by omega
  have hPu : u * P + P ≤ 18446744073709551616 := by
    have := Nat.mul_le_mul_right P hu
    rw [Nat.succ_mul, Nat.mul_comm T P, h64] at this
    exact this
  have h64' : (T : Int) * (P : Int) = 18446744073709551616 := by
    rw [← Int.natCast_mul, Nat.mul_comm, h64]; rfl
  have h3 : ((u * P + q : Nat) : Int) = (u : Int) * (P : Int) + (q : Int) := by rw [Int.natCast_add, Int.natCast_mul]
  have hz : (q : Int) / (P : Int) = 0 := Int.ediv_eq_zero_of_lt (by omega) (by omega)
  by_cases hs : H ≤ u
  · rw [if_pos hs]
    have h1 : 9223372036854775808 ≤ u * P := by
      have := Nat.mul_le_mul_right P hs
      rw [Nat.mul_comm H P, h63] at this
      exact this
    have e1 : wrap64 ((u * P + q : Nat) : Int) = (q : Int) + ((u : Int) - (T : Int)) * (P : Int) := by
      rw [Int.sub_mul, h64']
      generalize hU : u * P = U at *
      have h5 : (u : Int) * (P : Int) = (U : Int) := by rw [← hU, Int.natCast_mul]
      rw [h5]
      unfold wrap64
      omega
    rw [e1, Int.add_mul_ediv_right _ _ hP0, hz, Int.zero_add]
  · rw [if_neg hs]
    have h1 : u * P + P ≤ 9223372036854775808 := by
      have := Nat.mul_le_mul_right P (Nat.succ_le_of_lt (Nat.lt_of_not_le hs))
      rw [Nat.succ_mul, Nat.mul_comm H P, h63] at this
      exact this
    rw [w64 (by omega) (by omega), h3, Int.add_comm, Int.add_mul_ediv_right _ _ hP0, hz, Int.zero_add]
theorem signed_eq (W at_ n : Nat) (hn : 1 ≤ n) (h : at_ + n ≤ 64) : wrap64 ((W * 2 ^ (64 - at_ - n) % 18446744073709551616 : Nat) : Int) / ((2 ^ (64 - n) : Nat) : Int) = sgnS (fieldS W at_ n) n := by
  obtain ⟨q, P, e, hq, hP, h63, h64⟩ := signed_core W at_ n hn h
  rw [← hP, e, signed_arith _ q P (2 ^ n) (2 ^ (n - 1)) hq h63 h64 (field_lt W at_ n), sgnS, Int.natCast_pow]
  rfl
theorem wrap_succ (i : Nat) (h : i ≤ 140737488355328) : wrap64 ((i : Int) + 1) = ((i + 1 : Nat) : Int) := by rw [w64 (by omega) (by omega)]; omega
end Go.Proofs.YthghblmffdfbaaaGreatDoor.M

/- Plain facts on tags: the tag of bytes, the non-zero bytes, expanding; no program in sight. -/
namespace Go.Proofs.YthghblmffdfbaaaGreatDoor.M
open Go Go.RowKit Go.Proofs.YthghblmffdfbaaaGreatDoorW.PrintWords Go.Proofs.YthghblmffdfbaaaGreatDoorW.PrintLast Go.Proofs.YthghblmffdfbaaaGreatDoorW.PrintMore
set_option linter.unusedVariables false
set_option linter.unusedSimpArgs false
def tagL : List Int → Int
  | [] => 0
  | x :: l => (if x = 0 then 0 else 1) + 2 * tagL l
def nz (l : List Int) : List Int := l.filter (fun x => decide (x ≠ 0))
def ofS (w : Int) : Int := tagL (bs 8 w)
def nzS (w : Int) : List Int := nz (bs 8 w)
def onesF : Nat → Int → Nat
  | 0, _ => 0
  | n + 1, t => (t % 2).toNat + onesF n (t / 2)
def onesS (t : Int) : Nat := onesF 8 t
def expF : Nat → Int → List Int → List Int
  | 0, _, _ => []
  | n + 1, t, b => if t % 2 = 1 then b.headD 0 :: expF n (t / 2) b.tail else 0 :: expF n (t / 2) b
def expS (t : Int) (b : List Int) : Int := val (expF 8 t b)
theorem nz_nil : nz [] = [] := rfl
theorem nz_cons (x : Int) (l : List Int) : nz (x :: l) = if x = 0 then nz l else x :: nz l := by
  simp only [nz, List.filter_cons]; by_cases h : x = 0 <;> simp [h]
theorem nz_append (l m : List Int) : nz (l ++ m) = nz l ++ nz m := by simp [nz]
theorem nz_B {l : List Int} (h : IsB l) : IsB (nz l) := fun x hx => h x (List.mem_filter.mp hx).1
theorem nz_length_le (l : List Int) : (nz l).length ≤ l.length := List.length_filter_le _ _
theorem nzS_length_le (w : Int) : (nzS w).length ≤ 8 := by
  have := nz_length_le (bs 8 w); rw [bs_length] at this; exact this
theorem nzS_B (w : Int) : IsB (nzS w) := nz_B (bs_B 8 w)
theorem tagL_nonneg : ∀ l, 0 ≤ tagL l
  | [] => by simp [tagL]
  | x :: l => by have := tagL_nonneg l; simp only [tagL]; split <;> omega
theorem tagL_lt : ∀ l : List Int, tagL l < 2 ^ l.length
  | [] => by simp [tagL]
  | x :: l => by
    have := tagL_lt l
    simp only [tagL, List.length_cons, Int.pow_succ]; split <;> omega
theorem tagL_append (l m : List Int) : tagL (l ++ m) = tagL l + 2 ^ l.length * tagL m := by
  induction l with
  | nil => simp [tagL]
  | cons x l ih =>
    simp only [List.cons_append, tagL, ih, List.length_cons, Int.pow_succ]
    rw [Int.mul_add, Int.add_assoc, Int.mul_comm (2 ^ l.length) 2, Int.mul_assoc]
theorem tagL_mod (x : Int) (l : List Int) : tagL (x :: l) % 2 = if x = 0 then 0 else 1 := by simp only [tagL]; split <;> omega
theorem tagL_div (x : Int) (l : List Int) : tagL (x :: l) / 2 = tagL l := by simp only [tagL]; split <;> omega
theorem onesF_tagL : ∀ l : List Int, onesF l.length (tagL l) = (nz l).length
  | [] => rfl
  | x :: l => by
    rw [List.length_cons, onesF, tagL_mod, tagL_div, onesF_tagL l, nz_cons]
    by_cases h : x = 0
    · simp [h]
    · simp [h]; omega
theorem onesF_le (n : Nat) : ∀ t, onesF n t ≤ n := by
  induction n with
  | zero => intro t; simp [onesF]
  | succ n ih => intro t; have := ih (t / 2); simp only [onesF]; omega
theorem ones_ofS (w : Int) : onesS (ofS w) = (nzS w).length := by
  have := onesF_tagL (bs 8 w)
  rwa [bs_length] at this
theorem ofS_range (w : Int) : 0 ≤ ofS w ∧ ofS w < 256 := by
  have h := tagL_lt (bs 8 w)
  rw [bs_length] at h
  exact ⟨tagL_nonneg _, h⟩
theorem onesS_le (t : Int) : onesS t ≤ 8 := onesF_le 8 t
theorem expF_length (n : Nat) : ∀ t b, (expF n t b).length = n := by
  induction n with
  | zero => intro t b; rfl
  | succ n ih => intro t b; simp only [expF]; split <;> simp [ih]
theorem expF_B (n : Nat) : ∀ t b, IsB b → IsB (expF n t b) := by
  induction n with
  | zero => intro t b _; exact IsB.nil
  | succ n ih =>
    intro t b h
    simp only [expF]
    split
    · cases b with
      | nil => exact IsB.cons (by simp) (by simp) (ih _ _ IsB.nil)
      | cons x b => exact IsB.cons (h x List.mem_cons_self).1 (h x List.mem_cons_self).2 (ih _ _ (fun y hy => h y (List.mem_cons_of_mem _ hy)))
    · exact IsB.cons (by decide) (by decide) (ih _ _ h)
theorem expF_take (n : Nat) : ∀ t b m, onesF n t ≤ m → expF n t (b.take m) = expF n t b := by
  induction n with
  | zero => intro t b m _; rfl
  | succ n ih =>
    intro t b m h
    simp only [expF]
    simp only [onesF] at h
    by_cases h1 : t % 2 = 1
    · rw [if_pos h1, if_pos h1]
      cases b with
      | nil => simp
      | cons x b =>
        obtain ⟨m, rfl⟩ : ∃ q, m = q + 1 := ⟨m - 1, by omega⟩
        rw [List.take_succ_cons, List.tail_cons, List.tail_cons, ih _ _ _ (by omega)]; rfl
    · rw [if_neg h1, if_neg h1, ih _ _ _ (by omega)]
theorem expF_append (n : Nat) (t : Int) (b c : List Int) (h : onesF n t ≤ b.length) : expF n t (b ++ c) = expF n t b := by
  rw [← expF_take n t (b ++ c) (onesF n t) (Nat.le_refl _), List.take_append_of_le_length h, expF_take n t b _ (Nat.le_refl _)]
theorem expF_tag : ∀ l : List Int, expF l.length (tagL l) (nz l) = l
  | [] => rfl
  | x :: l => by
    rw [List.length_cons, expF, tagL_mod, tagL_div, nz_cons]
    by_cases h : x = 0
    · simp [h, expF_tag l]
    · simp [h, expF_tag l]
theorem expF_of (w : Int) (tail : List Int) : expF 8 (ofS w) (nzS w ++ tail) = bs 8 w := by
  have h := expF_tag (bs 8 w)
  rw [bs_length] at h
  rw [expF_append _ _ _ _ (by have := ones_ofS w; unfold onesS at this; omega)]; exact h
theorem expS_of {w : Int} (h0 : 0 ≤ w) (h1 : w < 18446744073709551616) (tail : List Int) : expS (ofS w) (nzS w ++ tail) = w := by
  rw [expS, expF_of, val_bs8 h0 h1]
theorem expS_range {t : Int} {b : List Int} (h : IsB b) : 0 ≤ expS t b ∧ expS t b < 18446744073709551616 := val_lt8 (expF_B 8 t b h) (expF_length 8 t b)
theorem onesF_snoc (n : Nat) : ∀ t : Int, onesF (n + 1) t = onesF n t + (t / 2 ^ n % 2).toNat := by
  induction n with
  | zero => intro t; simp [onesF]
  | succ n ih =>
    intro t
    rw [onesF, ih, onesF, Int.ediv_ediv_of_nonneg (by decide), Int.pow_succ, Int.mul_comm (2 ^ n) 2]; omega
theorem drop_headD {b : List Int} {i : Nat} : (b.drop i).headD 0 = rd b (i : Int) := by
  simp [rd, List.headD_eq_head?_getD, List.head?_drop]
theorem expF_snoc (n : Nat) : ∀ (t : Int) (b : List Int), expF (n + 1) t b = expF n t b ++ [if t / 2 ^ n % 2 = 1 then rd b ((onesF n t : Nat) : Int) else 0] := by
  induction n with
  | zero =>
    intro t b
    simp only [expF, onesF, Int.pow_zero, Int.ediv_one, List.nil_append]
    split
    · rw [← drop_headD]; simp
    · rfl
  | succ n ih =>
    intro t b
    have e : t / 2 / 2 ^ n = t / 2 ^ (n + 1) := by rw [Int.ediv_ediv_of_nonneg (by decide), Int.pow_succ, Int.mul_comm]
    have s : ∀ m, expF (m + 1) t b = if t % 2 = 1 then b.headD 0 :: expF m (t / 2) b.tail else 0 :: expF m (t / 2) b := fun m => rfl
    have o : onesF (n + 1) t = (t % 2).toNat + onesF n (t / 2) := rfl
    rw [s (n + 1), s n, o]
    by_cases h : t % 2 = 1
    · rw [if_pos h, if_pos h, ih, e, List.cons_append, h, ← drop_headD, ← drop_headD, ← List.drop_one, List.drop_drop]
      rfl
    · rw [if_neg h, if_neg h, ih, e, List.cons_append, show t % 2 = 0 by omega]
      simp
end Go.Proofs.YthghblmffdfbaaaGreatDoor.M

/- The packed encoding as plain lists: packing words, decoding bytes, and that decoding a packed form gives the words back; no program in sight. -/
namespace Go.Proofs.YthghblmffdfbaaaGreatDoor.M
open Go Go.RowKit Go.Proofs.YthghblmffdfbaaaGreatDoorW.PrintWords Go.Proofs.YthghblmffdfbaaaGreatDoorW.PrintLast Go.Proofs.YthghblmffdfbaaaGreatDoorW.PrintMore
set_option linter.unusedVariables false
set_option linter.unusedSimpArgs false
def runP (p : Int → Bool) : Nat → List Int → Nat
  | 0, _ => 0
  | _ + 1, [] => 0
  | n + 1, x :: l => if p x = true then runP p n l + 1 else 0
def denseS (w : Int) : Bool := decide (7 ≤ (nzS w).length)
def isZ (w : Int) : Bool := w == 0
def packF : Nat → List Int → List Int
  | 0, _ => []
  | _ + 1, [] => []
  | k + 1, w :: l =>
    if ofS w = 0 then ofS w :: (nzS w ++ ((runP isZ 255 l : Nat) : Int) :: packF k (l.drop (runP isZ 255 l)))
    else if ofS w = 255 then ofS w :: (nzS w ++ ((runP denseS 255 l : Nat) : Int) :: (bytesS (l.take (runP denseS 255 l)) ++ packF k (l.drop (runP denseS 255 l))))
    else ofS w :: (nzS w ++ packF k l)
def packS (l : List Int) : List Int := packF l.length l
theorem runP_le (p : Int → Bool) : ∀ (n : Nat) (l : List Int), runP p n l ≤ n
  | 0, l => by simp [runP]
  | n + 1, [] => by simp [runP]
  | n + 1, x :: l => by have := runP_le p n l; simp only [runP]; split <;> omega
theorem runP_length (p : Int → Bool) : ∀ (n : Nat) (l : List Int), runP p n l ≤ l.length
  | 0, l => by simp [runP]
  | n + 1, [] => by simp [runP]
  | n + 1, x :: l => by have := runP_length p n l; simp only [runP, List.length_cons]; split <;> omega
theorem runP_all (p : Int → Bool) : ∀ (n : Nat) (l : List Int), ∀ x ∈ l.take (runP p n l), p x = true
  | 0, l => by simp [runP]
  | n + 1, [] => by simp [runP]
  | n + 1, x :: l => by
    have := runP_all p n l
    simp only [runP]
    by_cases h : p x = true
    · rw [if_pos h, List.take_succ_cons]
      intro y hy
      rcases List.mem_cons.mp hy with rfl | hy
      · exact h
      · exact this y hy
    · rw [if_neg h]; simp
theorem runP_stop (p : Int → Bool) : ∀ (n : Nat) (l : List Int), runP p n l < n → runP p n l < l.length → p (rd l ((runP p n l : Nat) : Int)) = false
  | 0, l => by simp [runP]
  | n + 1, [] => by simp [runP]
  | n + 1, x :: l => by
    have := runP_stop p n l
    simp only [runP]
    by_cases h : p x = true
    · rw [if_pos h]
      intro h1 h2
      have h3 := this (by omega) (by simpa using h2)
      have e : rd (x :: l) ((runP p n l + 1 : Nat) : Int) = rd l ((runP p n l : Nat) : Int) := by simp [rd]
      rw [e]; exact h3
    · rw [if_neg h]
      intro _ _
      simpa [rd] using h
theorem runP_zeros (n : Nat) (l : List Int) : l.take (runP isZ n l) = List.replicate (runP isZ n l) 0 := by
  have h := runP_all isZ n l
  have hl : (l.take (runP isZ n l)).length = runP isZ n l := by have := runP_length isZ n l; rw [List.length_take]; omega
  rw [List.eq_replicate_iff]
  exact ⟨hl, fun x hx => by simpa [isZ] using h x hx⟩
theorem packF_fuel : ∀ (k : Nat) (l : List Int), l.length ≤ k → packF k l = packS l := by
  have key : ∀ (n : Nat) (k j : Nat) (l : List Int), l.length ≤ n → l.length ≤ k → l.length ≤ j → packF k l = packF j l := by
    intro n
    induction n with
    | zero =>
      intro k j l hn hk hj
      have : l = [] := List.length_eq_zero_iff.mp (by omega)
      subst this
      cases k <;> cases j <;> rfl
    | succ n ih =>
      intro k j l hn hk hj
      cases l with
      | nil => cases k <;> cases j <;> rfl
      | cons w l =>
        simp only [List.length_cons] at hn hk hj
        obtain ⟨k, rfl⟩ : ∃ q, k = q + 1 := ⟨k - 1, by omega⟩
        obtain ⟨j, rfl⟩ : ∃ q, j = q + 1 := ⟨j - 1, by omega⟩
        simp only [packF]
        rw [ih k j (l.drop (runP isZ 255 l)) (by rw [List.length_drop]; omega) (by rw [List.length_drop]; omega) (by rw [List.length_drop]; omega),
          ih k j (l.drop (runP denseS 255 l)) (by rw [List.length_drop]; omega) (by rw [List.length_drop]; omega) (by rw [List.length_drop]; omega),
          ih k j l (by omega) (by omega) (by omega)]
  intro k l h
  exact key l.length k l.length l (Nat.le_refl _) h (Nat.le_refl _)
theorem packS_nil : packS [] = [] := rfl
theorem packS_cons (w : Int) (l : List Int) : packS (w :: l) =
    if ofS w = 0 then ofS w :: (nzS w ++ ((runP isZ 255 l : Nat) : Int) :: packS (l.drop (runP isZ 255 l)))
    else if ofS w = 255 then ofS w :: (nzS w ++ ((runP denseS 255 l : Nat) : Int) :: (bytesS (l.take (runP denseS 255 l)) ++ packS (l.drop (runP denseS 255 l))))
    else ofS w :: (nzS w ++ packS l) := by
  show packF (l.length + 1) (w :: l) = _
  simp only [packF]
  rw [packF_fuel l.length (l.drop (runP isZ 255 l)) (by rw [List.length_drop]; omega), packF_fuel l.length (l.drop (runP denseS 255 l)) (by rw [List.length_drop]; omega), packF_fuel l.length l (Nat.le_refl _)]
theorem packS_B : ∀ (n : Nat) (l : List Int), l.length ≤ n → IsB (packS l) := by
  intro n
  induction n with
  | zero =>
    intro l h
    have : l = [] := List.length_eq_zero_iff.mp (by omega)
    subst this; exact IsB.nil
  | succ n ih =>
    intro l h
    cases l with
    | nil => exact IsB.nil
    | cons w l =>
      simp only [List.length_cons] at h
      have ho := ofS_range w
      have hz := runP_le isZ 255 l
      have hd := runP_le denseS 255 l
      rw [packS_cons]
      split
      · exact IsB.cons ho.1 ho.2 ((nzS_B w).append (IsB.cons (by omega) (by omega) (ih _ (by rw [List.length_drop]; omega))))
      · split
        · exact IsB.cons ho.1 ho.2 ((nzS_B w).append (IsB.cons (by omega) (by omega) ((bytesS_B _).append (ih _ (by rw [List.length_drop]; omega)))))
        · exact IsB.cons ho.1 ho.2 ((nzS_B w).append (ih _ (by omega)))
theorem packS_isB (l : List Int) : IsB (packS l) := packS_B l.length l (Nat.le_refl _)
theorem nz_none {l : List Int} (h : nz l = []) : val l = 0 := by
  induction l with
  | nil => rfl
  | cons x l ih =>
    rw [nz_cons] at h
    by_cases hx : x = 0
    · rw [if_pos hx] at h
      rw [val, ih h, hx]; rfl
    · rw [if_neg hx] at h; cases h
theorem ofS_zero {w : Int} (h0 : 0 ≤ w) (h1 : w < 18446744073709551616) (h : ofS w = 0) : w = 0 ∧ nzS w = [] := by
  have h2 := ones_ofS w
  rw [h] at h2
  have h3 : onesS 0 = 0 := by decide
  have e : nzS w = [] := List.length_eq_zero_iff.mp (by omega)
  refine ⟨?_, e⟩
  have := nz_none e
  rwa [val_bs8 h0 h1] at this
theorem onesS_lt : ∀ n : Fin 256, onesS ((n.val : Nat) : Int) = 8 → n.val = 255 := by decide +kernel
theorem onesS_255 : onesS 255 = 8 := by decide
theorem onesS_0 : onesS 0 = 0 := by decide
theorem ofS_full {w : Int} (h : ofS w = 255) : (nzS w).length = 8 := by rw [← ones_ofS, h]; rfl
theorem ofS_lt8 {w : Int} (h : ofS w ≠ 255) : (nzS w).length ≤ 7 := by
  have h1 := ones_ofS w
  have h2 := nzS_length_le w
  have ho := ofS_range w
  rcases Nat.lt_or_ge (nzS w).length 8 with h3 | h3
  · omega
  · exfalso
    obtain ⟨m, hm⟩ := Int.eq_ofNat_of_zero_le ho.1
    rw [hm] at h1 ho h
    have := onesS_lt ⟨m, by omega⟩ (by show onesS (m : Int) = 8; omega)
    simp at this
    omega
theorem packS_bound : ∀ (n : Nat) (l : List Int), l.length ≤ n → (packS l).length ≤ 9 * l.length + 1 ∧ (0 < l.length → denseS (rd l 0) = false → (packS l).length + 1 ≤ 9 * l.length) := by
  intro n
  induction n with
  | zero =>
    intro l h
    have : l = [] := List.length_eq_zero_iff.mp (by omega)
    subst this; simp [packS_nil]
  | succ n ih =>
    intro l h
    cases l with
    | nil => simp [packS_nil]
    | cons w l =>
      simp only [List.length_cons] at h
      have hrd : rd (w :: l) 0 = w := by simp [rd]
      rw [hrd, packS_cons]
      have hno := ones_ofS w
      by_cases h0 : ofS w = 0
      · rw [if_pos h0]
        rw [h0, onesS_0] at hno
        have hr := runP_length isZ 255 l
        obtain ⟨h1, _⟩ := ih (l.drop (runP isZ 255 l)) (by rw [List.length_drop]; omega)
        simp only [List.length_cons, List.length_append] at h1 ⊢
        rw [List.length_drop] at h1
        refine ⟨by omega, fun _ _ => by omega⟩
      · rw [if_neg h0]
        by_cases h2 : ofS w = 255
        · rw [if_pos h2]
          have h8 := ofS_full h2
          have hr := runP_length denseS 255 l
          have hle := runP_le denseS 255 l
          have hst := runP_stop denseS 255 l
          have hb := bytesS_length (l.take (runP denseS 255 l))
          rw [List.length_take, Nat.min_eq_left hr] at hb
          obtain ⟨h1, h3⟩ := ih (l.drop (runP denseS 255 l)) (by rw [List.length_drop]; omega)
          have hd : denseS w = true := by simp [denseS, h8]
          rw [List.length_drop] at h1 h3
          simp only [List.length_cons, List.length_append, hb]
          refine ⟨?_, fun _ h4 => by rw [hd] at h4; cases h4⟩
          by_cases h5 : runP denseS 255 l < l.length
          · by_cases h6 : runP denseS 255 l < 255
            · have h7 := hst h6 h5
              have e : rd (l.drop (runP denseS 255 l)) 0 = rd l ((runP denseS 255 l : Nat) : Int) := by simp [rd]
              have h9 := h3 (by omega) (by rw [e]; exact h7)
              omega
            · omega
          · have e : l.drop (runP denseS 255 l) = [] := List.drop_of_length_le (by omega)
            rw [e, packS_nil, List.length_nil]; omega
        · rw [if_neg h2]
          have h7 := ofS_lt8 h2
          obtain ⟨h1, _⟩ := ih l (by omega)
          simp only [List.length_cons, List.length_append]
          refine ⟨by omega, fun _ h4 => ?_⟩
          have h5 : (nzS w).length < 7 := by
            rcases Nat.lt_or_ge (nzS w).length 7 with h | h
            · exact h
            · simp [denseS, h] at h4
          omega
theorem packS_length_le (l : List Int) : (packS l).length ≤ 9 * l.length + 1 := (packS_bound l.length l (Nat.le_refl _)).1
def decF : Nat → List Int → List Int × Bool
  | 0, _ => ([], true)
  | _ + 1, [] => ([], false)
  | k + 1, t :: p =>
    if t = 0 then
      match p with
      | [] => ([], true)
      | c :: q => (List.replicate (c.toNat + 1) 0 ++ (decF k q).1, (decF k q).2)
    else if p.length < onesS t then ([], true)
    else if t = 255 then
      match p.drop 8 with
      | [] => ([expS t p], true)
      | c :: q =>
        if q.length < 8 * c.toNat then (expS t p :: wordsS q, true)
        else (expS t p :: (wordsS (q.take (8 * c.toNat)) ++ (decF k (q.drop (8 * c.toNat))).1), (decF k (q.drop (8 * c.toNat))).2)
    else (expS t p :: (decF k (p.drop (onesS t))).1, (decF k (p.drop (onesS t))).2)
def decS (p : List Int) : List Int × Bool := decF (p.length + 1) p
theorem decF_fuel : ∀ (k : Nat) (p : List Int), p.length < k → decF k p = decS p := by
  have key : ∀ (n : Nat) (k j : Nat) (p : List Int), p.length ≤ n → p.length < k → p.length < j → decF k p = decF j p := by
    intro n
    induction n with
    | zero =>
      intro k j p hn hk hj
      have : p = [] := List.length_eq_zero_iff.mp (by omega)
      subst this
      obtain ⟨k, rfl⟩ : ∃ q, k = q + 1 := ⟨k - 1, by omega⟩
      obtain ⟨j, rfl⟩ : ∃ q, j = q + 1 := ⟨j - 1, by omega⟩
      rfl
    | succ n ih =>
      intro k j p hn hk hj
      obtain ⟨k, rfl⟩ : ∃ q, k = q + 1 := ⟨k - 1, by omega⟩
      obtain ⟨j, rfl⟩ : ∃ q, j = q + 1 := ⟨j - 1, by omega⟩
      cases p with
      | nil => rfl
      | cons t p =>
        simp only [List.length_cons] at hn hk hj
        simp only [decF]
        split
        · cases p with
          | nil => rfl
          | cons c q =>
            simp only [List.length_cons] at hn hk hj
            simp only []
            rw [ih k j q (by omega) (by omega) (by omega)]
        · split
          · rfl
          · split
            · cases hq : p.drop 8 with
              | nil => rfl
              | cons c q =>
                have hl : q.length + 1 ≤ p.length := by
                  have := congrArg List.length hq
                  rw [List.length_drop, List.length_cons] at this; omega
                simp only []
                rw [ih k j (q.drop (8 * c.toNat)) (by rw [List.length_drop]; omega) (by rw [List.length_drop]; omega) (by rw [List.length_drop]; omega)]
            · rw [ih k j (p.drop (onesS t)) (by rw [List.length_drop]; omega) (by rw [List.length_drop]; omega) (by rw [List.length_drop]; omega)]
  intro k p h
  exact key p.length k (p.length + 1) p (Nat.le_refl _) h (by omega)
theorem decS_nil : decS [] = ([], false) := rfl
theorem decS_zero (c : Int) (q : List Int) : decS (0 :: c :: q) = (List.replicate (c.toNat + 1) 0 ++ (decS q).1, (decS q).2) := by
  show decF (q.length + 1 + 1 + 1) (0 :: c :: q) = _
  simp only [decF, if_true]
  rw [decF_fuel _ q (by omega)]
theorem decS_zero_end : decS [0] = ([], true) := rfl
theorem decS_short {t : Int} {p : List Int} (h0 : t ≠ 0) (h : p.length < onesS t) : decS (t :: p) = ([], true) := by
  show decF (p.length + 1 + 1) (t :: p) = _
  simp only [decF, if_neg h0, if_pos h]
theorem decS_tag {t : Int} {p : List Int} (h0 : t ≠ 0) (h1 : t ≠ 255) (h : onesS t ≤ p.length) : decS (t :: p) = (expS t p :: (decS (p.drop (onesS t))).1, (decS (p.drop (onesS t))).2) := by
  show decF (p.length + 1 + 1) (t :: p) = _
  simp only [decF, if_neg h0, if_neg h1, if_neg (Nat.not_lt.mpr h)]
  rw [decF_fuel _ (p.drop (onesS t)) (by rw [List.length_drop]; omega)]
theorem decS_full_end {p : List Int} (h : p.length = 8) : decS (255 :: p) = ([expS 255 p], true) := by
  show decF (p.length + 1 + 1) (255 :: p) = _
  have e : p.drop 8 = [] := List.drop_of_length_le (by omega)
  have o : onesS 255 = 8 := by decide
  simp only [decF, if_neg (show ¬ (255 : Int) = 0 by decide), if_neg (show ¬ p.length < onesS 255 by omega), e, if_true]
theorem decS_full {p : List Int} {c : Int} {q : List Int} (h : p.length = 8) : decS (255 :: (p ++ c :: q)) = if q.length < 8 * c.toNat then (expS 255 p :: wordsS q, true) else (expS 255 p :: (wordsS (q.take (8 * c.toNat)) ++ (decS (q.drop (8 * c.toNat))).1), (decS (q.drop (8 * c.toNat))).2) := by
  show decF ((p ++ c :: q).length + 1 + 1) (255 :: (p ++ c :: q)) = _
  have e : (p ++ c :: q).drop 8 = c :: q := by rw [List.drop_append_of_le_length (by omega), List.drop_of_length_le (by omega), List.nil_append]
  have o : onesS 255 = 8 := by decide
  have hl : ¬ (p ++ c :: q).length < onesS 255 := by rw [List.length_append]; omega
  have h8 : onesF 8 255 = 8 := by decide
  have hx : expS 255 (p ++ c :: q) = expS 255 p := by rw [expS, expF_append 8 255 p (c :: q) (by omega)]; rfl
  simp only [decF, if_neg (show ¬ (255 : Int) = 0 by decide), if_neg hl, e, if_true, hx]
  rw [decF_fuel _ (q.drop (8 * c.toNat)) (by rw [List.length_drop, List.length_append, List.length_cons]; omega)]
theorem dec_pack (q : List Int) : ∀ (n : Nat) (l : List Int), l.length ≤ n → IsW l → decS (packS l ++ q) = (l ++ (decS q).1, (decS q).2) := by
  intro n
  induction n with
  | zero =>
    intro l h _
    have : l = [] := List.length_eq_zero_iff.mp (by omega)
    subst this; simp [packS_nil]
  | succ n ih =>
    intro l h hW
    cases l with
    | nil => simp [packS_nil]
    | cons w l =>
      simp only [List.length_cons] at h
      have hw := hW w List.mem_cons_self
      have hL : IsW l := fun x hx => hW x (List.mem_cons_of_mem _ hx)
      rw [packS_cons]
      by_cases h0 : ofS w = 0
      · rw [if_pos h0]
        obtain ⟨e1, e2⟩ := ofS_zero hw.1 hw.2 h0
        rw [h0, e2, List.nil_append, List.cons_append, List.cons_append, decS_zero, ih _ (by rw [List.length_drop]; omega) (hL.drop _), Int.toNat_natCast, List.replicate_succ, ← runP_zeros, e1, List.cons_append, ← List.append_assoc, List.take_append_drop]
        rfl
      · rw [if_neg h0]
        by_cases h1 : ofS w = 255
        · rw [if_pos h1]
          have hn := ofS_full h1
          have hd := runP_length denseS 255 l
          have hb := bytesS_length (l.take (runP denseS 255 l))
          rw [List.length_take, Nat.min_eq_left hd] at hb
          rw [h1, List.cons_append, List.append_assoc, List.cons_append, decS_full hn, Int.toNat_natCast, if_neg (by rw [List.length_append, List.length_append]; omega)]
          have ew : expS 255 (nzS w) = w := by
            have := expS_of hw.1 hw.2 []
            rwa [List.append_nil, h1] at this
          rw [ew, List.append_assoc, List.take_append_of_le_length (by omega), List.take_of_length_le (by omega), List.drop_append_of_le_length (by omega), List.drop_of_length_le (by omega), List.nil_append, wordsS_bytesS _ (hL.take _), ih _ (by rw [List.length_drop]; omega) (hL.drop _)]
          simp only [List.cons_append]
          rw [← List.append_assoc, List.take_append_drop]
        · rw [if_neg h1, List.cons_append, List.append_assoc, decS_tag h0 h1 (by rw [ones_ofS, List.length_append]; omega), expS_of hw.1 hw.2, ones_ofS, List.drop_append_of_le_length (Nat.le_refl _), List.drop_of_length_le (Nat.le_refl _), List.nil_append, ih l (by omega) hL]
          rfl
theorem dec_packS {l : List Int} (h : IsW l) : decS (packS l) = (l, false) := by
  have := dec_pack [] l.length l (Nat.le_refl _) h
  rw [List.append_nil, decS_nil] at this
  simpa using this
end Go.Proofs.YthghblmffdfbaaaGreatDoor.M
