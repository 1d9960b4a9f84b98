/- The printed functions of the law WholePack hold what their plain specifications say. -/
import Derived.Test.YthghblmffdfbaaaGreatDoorPWholePackx2H
import Derived.Test.YthghblmffdfbaaaGreatDoorPWholePackx3H
import Derived.Test.YthghblmffdfbaaaGreatDoorPWholePackx8H
import Derived.Test.YthghblmffdfbaaaGreatDoorPWholePackx9H
import Derived.Test.YthghblmffdfbaaaGreatDoorPWholePackx10H
import Derived.Test.YthghblmffdfbaaaGreatDoorM6H
import Derived.Test.YthghblmffdfbaaaGreatDoorDec6H
import Derived.Test.YthghblmffdfbaaaGreatDoorGrp2H
import Derived.Test.YthghblmffdfbaaaGreatDoorQFrBaseH
import Derived.Test.YthghblmffdfbaaaGreatDoorQUnBaseH
import Derived.Test.YthghblmffdfbaaaGreatDoorQOfBaseH
namespace Go.Proofs.YthghblmffdfbaaaGreatDoor.QWholePack
open Go Go.RowKit Go.Proofs.YthghblmffdfbaaaGreatDoor Go.Proofs.YthghblmffdfbaaaGreatDoor.M Go.Proofs.YthghblmffdfbaaaGreatDoor.PWholePack Go.Proofs.YthghblmffdfbaaaGreatDoorW.PrintWords Go.Proofs.YthghblmffdfbaaaGreatDoorW.PrintLast Go.Proofs.YthghblmffdfbaaaGreatDoorW.PrintMore
open Go.Proofs.YthghblmffdfbaaaGreatDoor.QFrBase (frTable frZero_l0 frZero or_val wordGet_step chunk_rd wordGet_l0 wordGet_yes wordGet_no wordWords_l0 wordWords_yes wordWords_no wordBytes_l1 wordBytes_l0 wordBytes wordMask wordField wordSigned wordInsert)
open Go.Proofs.YthghblmffdfbaaaGreatDoor.QUnBase (bitsOnes_all bitsOnes tagOnes and_tag insert_byte tagExpand_yes tagExpand)
open Go.Proofs.YthghblmffdfbaaaGreatDoor.QOfBase (tagOf_step or_tag tagOf_l0 tagOf)
open Go.Proofs.YthghblmffdfbaaaGreatDoor.PFrBase
open Go.Proofs.YthghblmffdfbaaaGreatDoor.PUnBase (bits_OnesCount8.f bits_OnesCount8.calls tagbyte_Ones.f tagbyte_Ones.calls)
open Go.Proofs.YthghblmffdfbaaaGreatDoor.POfBase (tagbyte_Of.f tagbyte_Of.calls tagbyte_Of.mono tagbyte_Of.mono_l)
set_option linter.unusedVariables false
set_option linter.unusedSimpArgs false
set_option maxRecDepth 10000
set_option maxHeartbeats 1000000
theorem unPrefix {l : List Int} (hB : IsB l) (hl : l.length ≤ 1000000000) (a : Int) (ha : a ≤ 9223372036854775807) : unpack_Prefix.f l a = some (bytesS ((decS l).1.take (max a 0 / 8).toNat), if (max a 0 / 8).toNat < (decS l).1.length then 11 else if (decS l).2 = true then 10 else 0) := Un.prefF_eq hB hl a ha
theorem unBytes {l : List Int} (hB : IsB l) (hl : l.length ≤ 1000000000) (a : Int) (ha : a ≤ 9223372036854775807) : unpack_Bytes.f l a = some (if (max a 0 / 8).toNat < (decS l).1.length then ([], 11) else if (decS l).2 = true then ([], 10) else (bytesS (decS l).1, 0)) := by
  unfold unpack_Bytes.f
  rw [unPrefix hB hl a ha]
  simp only [Option.bind_some]
  by_cases h1 : (max a 0 / 8).toNat < (decS l).1.length
  · rw [if_pos h1, if_pos h1]; rfl
  · rw [if_neg h1, if_neg h1]
    by_cases h2 : (decS l).2 = true
    · rw [if_pos h2, if_pos h2]; rfl
    · rw [if_neg h2, if_neg h2, List.take_of_length_le (by omega)]; rfl
theorem unBytesE {l : List Int} (hB : IsB l) (hl : l.length ≤ 1000000000) (a : Int) (ha : a ≤ 9223372036854775807) : Ev (fun _ => unpack_Bytes.f l a) (if (max a 0 / 8).toNat < (decS l).1.length then ([], 11) else if (decS l).2 = true then ([], 10) else (bytesS (decS l).1, 0)) := by
  rw [unBytes hB hl a ha]; exact Ev.now _
theorem tagBytes_l0 (l : List Int) (hl : l.length = 8) : ∀ d i : Nat, i + d = 8 → ∀ x3 : List Int, x3 = nz (l.take i) → Ev (fun k => tagbyte_Bytes.l0 k x3 l 8 (i : Int)) (nz l) := by
  intro d
  induction d with
  | zero =>
    intro i hi x3 h
    refine Ev.step (f := fun _ => some x3) (fun k => ?_) ?_
    · simp only [tagbyte_Bytes.l0]; rw [if_neg (by omega)]
    · rw [h, List.take_of_length_le (by omega)]; exact Ev.now _
  | succ d ih =>
    intro i hi x3 h
    have hx : x3.length ≤ 8 := by rw [h]; have := nz_length_le (l.take i); rw [List.length_take] at this; omega
    have ht : l.take (i + 1) = l.take i ++ [rd l (i : Int)] := take_rd (by omega)
    refine Ev.step (f := fun k => if rd l (i : Int) = 0 then tagbyte_Bytes.l0 k x3 l 8 ((i + 1 : Nat) : Int) else tagbyte_Bytes.l0 k (x3 ++ [rd l (i : Int)]) l 8 ((i + 1 : Nat) : Int)) (fun k => ?_) ?_
    · simp only [tagbyte_Bytes.l0]
      rw [if_pos (show (i : Int) < 8 by omega), if_pos (show 0 ≤ (i : Int) by omega), if_pos (show (i : Int) < (l.length : Int) by omega), wrap_succ i (by omega)]
      simp only [if_pos (show x3.length < 140737488355328 by omega)]
    · by_cases h0 : rd l (i : Int) = 0
      · refine Ev.congr (fun k => if_pos h0) (ih (i + 1) (by omega) _ ?_)
        rw [ht, nz_append, nz_cons, if_pos h0, nz_nil, List.append_nil, h]
      · refine Ev.congr (fun k => if_neg h0) (ih (i + 1) (by omega) _ ?_)
        rw [ht, nz_append, nz_cons, if_neg h0, nz_nil, h]
theorem tagBytes (w : Int) : Ev (fun k => tagbyte_Bytes.f k w) (nzS w) := by
  unfold tagbyte_Bytes.f
  refine Ev.bind (wordBytes [w] (by simp)) ?_
  have e : bytesS [w] = bs 8 w := by simp [bytesS]
  rw [e, bs_length]
  exact tagBytes_l0 _ (bs_length 8 w) 8 0 rfl [] rfl
theorem tagDense (w : Int) : Ev (fun k => tagbyte_Dense.f k w) (decide (7 ≤ (nzS w).length)) := by
  unfold tagbyte_Dense.f
  refine Ev.bind (tagOf w) ?_
  have h := ofS_range w
  rw [tagOnes h.1 h.2, ones_ofS, Option.bind_some]
  have e : decide (((nzS w).length : Int) ≥ 7) = decide (7 ≤ (nzS w).length) := by simp only [decide_eq_decide]; omega
  rw [e]; exact Ev.now _
theorem packRunZ_l0 (l : List Int) (hl : l.length ≤ 140737488351232) : ∀ d i : Nat, i + d = 255 → i ≤ l.length → Ev (fun k => pack_run_with_pack_Words_1.l0 k l (i : Int)) (((i + runP isZ d (l.drop i) : Nat)) : Int) := by
  intro d
  induction d with
  | zero =>
    intro i hi hil
    refine Ev.step (f := fun _ => some (i : Int)) (fun k => ?_) ?_
    · simp only [pack_run_with_pack_Words_1.l0]
      by_cases h : (i : Int) < (l.length : Int)
      · rw [if_pos h, if_neg (by omega)]
      · rw [if_neg h]
    · simpa [runP] using Ev.now (i : Int)
  | succ d ih =>
    intro i hi hil
    by_cases h : i < l.length
    · rw [drop_rd h]
      have hcall : Ev (fun _ => pack_Words_1.f (rd l (i : Int))) (isZ (rd l (i : Int))) := Ev.now _
      refine Ev.step (f := fun k => (pack_Words_1.f (rd l (i : Int))).bind fun t => if t = true then pack_run_with_pack_Words_1.l0 k l ((i + 1 : Nat) : Int) else some (i : Int)) (fun k => ?_) (Ev.bind hcall ?_)
      · simp only [pack_run_with_pack_Words_1.l0]
        rw [if_pos (show (i : Int) < (l.length : Int) by omega), if_pos (show (i : Int) < 255 by omega), if_pos (show 0 ≤ (i : Int) by omega), wrap_succ i (by omega)]
      · simp only [runP]
        by_cases hz : isZ (rd l (i : Int)) = true
        · rw [if_pos hz]
          have := ih (i + 1) (by omega) (by omega)
          rw [show i + 1 + runP isZ d (l.drop (i + 1)) = i + (runP isZ d (l.drop (i + 1)) + 1) by omega] at this
          exact Ev.congr (fun k => if_pos hz) this
        · rw [if_neg hz]
          exact Ev.congr (fun k => if_neg hz) (Ev.now _)
    · have e : l.drop i = [] := List.drop_of_length_le (by omega)
      refine Ev.step (f := fun _ => some (i : Int)) (fun k => ?_) ?_
      · simp only [pack_run_with_pack_Words_1.l0]; rw [if_neg (by omega)]
      · rw [e]; simpa [runP] using Ev.now (i : Int)
theorem packRunZ (l : List Int) (hl : l.length ≤ 140737488351232) : Ev (fun k => pack_run_with_pack_Words_1.f k l) ((runP isZ 255 l : Nat) : Int) := by
  have := packRunZ_l0 l hl 255 0 (by omega) (by omega)
  rw [List.drop_zero, Nat.zero_add] at this
  exact this
theorem packRunD_l0 (l : List Int) (hl : l.length ≤ 140737488351232) : ∀ d i : Nat, i + d = 255 → i ≤ l.length → Ev (fun k => pack_run_with_tagbyte_Dense.l0 k l (i : Int)) (((i + runP denseS d (l.drop i) : Nat)) : Int) := by
  intro d
  induction d with
  | zero =>
    intro i hi hil
    refine Ev.step (f := fun _ => some (i : Int)) (fun k => ?_) ?_
    · simp only [pack_run_with_tagbyte_Dense.l0]
      by_cases h : (i : Int) < (l.length : Int)
      · rw [if_pos h, if_neg (by omega)]
      · rw [if_neg h]
    · simpa [runP] using Ev.now (i : Int)
  | succ d ih =>
    intro i hi hil
    by_cases h : i < l.length
    · rw [drop_rd h]
      have hcall : Ev (fun k => tagbyte_Dense.f k (rd l (i : Int))) (denseS (rd l (i : Int))) := tagDense _
      refine Ev.step (f := fun k => (tagbyte_Dense.f k (rd l (i : Int))).bind fun t => if t = true then pack_run_with_tagbyte_Dense.l0 k l ((i + 1 : Nat) : Int) else some (i : Int)) (fun k => ?_) (Ev.bind hcall ?_)
      · simp only [pack_run_with_tagbyte_Dense.l0]
        rw [if_pos (show (i : Int) < (l.length : Int) by omega), if_pos (show (i : Int) < 255 by omega), if_pos (show 0 ≤ (i : Int) by omega), wrap_succ i (by omega)]
      · simp only [runP]
        by_cases hz : denseS (rd l (i : Int)) = true
        · rw [if_pos hz]
          have := ih (i + 1) (by omega) (by omega)
          rw [show i + 1 + runP denseS d (l.drop (i + 1)) = i + (runP denseS d (l.drop (i + 1)) + 1) by omega] at this
          exact Ev.congr (fun k => if_pos hz) this
        · rw [if_neg hz]
          exact Ev.congr (fun k => if_neg hz) (Ev.now _)
    · have e : l.drop i = [] := List.drop_of_length_le (by omega)
      refine Ev.step (f := fun _ => some (i : Int)) (fun k => ?_) ?_
      · simp only [pack_run_with_tagbyte_Dense.l0]; rw [if_neg (by omega)]
      · rw [e]; simpa [runP] using Ev.now (i : Int)
theorem packRunD (l : List Int) (hl : l.length ≤ 140737488351232) : Ev (fun k => pack_run_with_tagbyte_Dense.f k l) ((runP denseS 255 l : Nat) : Int) := by
  have := packRunD_l0 l hl 255 0 (by omega) (by omega)
  rw [List.drop_zero, Nat.zero_add] at this
  exact this
theorem packWords_l0 : ∀ (n : Nat) (l out : List Int), l.length ≤ n → IsW l → l.length ≤ 1000000000000 → out.length + 10 * l.length ≤ 100000000000000 → Ev (fun k => pack_Words.l0 k l out) (out ++ packS l) := by
  intro n
  induction n with
  | zero =>
    intro l out h _ _ _
    have : l = [] := List.length_eq_zero_iff.mp (by omega)
    subst this
    refine Ev.step (f := fun _ => some out) (fun k => ?_) ?_
    · simp only [pack_Words.l0]; rw [if_neg (by simp)]
    · rw [packS_nil, List.append_nil]; exact Ev.now _
  | succ n ih =>
    intro l out h hW hl ho
    cases l with
    | nil =>
      refine Ev.step (f := fun _ => some out) (fun k => ?_) ?_
      · simp only [pack_Words.l0]; rw [if_neg (by simp)]
      · rw [packS_nil, List.append_nil]; exact Ev.now _
    | cons w l =>
      simp only [List.length_cons] at h hl ho
      have hw := hW w List.mem_cons_self
      have hL : IsW l := fun x hx => hW x (List.mem_cons_of_mem _ hx)
      have hz := nzS_length_le w
      have hrd : rd (w :: l) 0 = w := by simp [rd]
      refine Ev.step (fun k => by simp only [pack_Words.l0, hrd, List.drop_succ_cons, List.drop_zero]; rfl) ?_
      refine Ev.congr (fun k => if_pos (by first | (simp; done) | (simp; omega))) (Ev.congr (fun k => if_pos (by first | (simp; done) | (simp; omega))) (Ev.bind (tagOf w) ?_))
      refine Ev.congr (fun k => if_pos (by omega)) ?_
      simp only [Option.bind_some]
      refine Ev.bind (tagBytes w) (Ev.congr (fun k => if_pos (by first | (simp; done) | (simp; omega))) ?_)
      refine Ev.congr (fun k => if_pos (by first | (simp; done) | (simp; omega))) ?_
      rw [packS_cons]
      by_cases h0 : ofS w = 0
      · rw [if_pos h0]
        have hr := runP_length isZ 255 l
        have hr2 := runP_le isZ 255 l
        refine Ev.congr (fun k => if_pos h0) (Ev.bind (packRunZ l (by omega)) ?_)
        refine Ev.congr (fun k => if_pos (by first | (simp; done) | (simp; omega))) (Ev.congr (fun k => if_pos (by omega)) (Ev.congr (fun k => if_pos (by omega)) ?_))
        rw [Int.toNat_natCast, show ((runP isZ 255 l : Nat) : Int) % 256 = ((runP isZ 255 l : Nat) : Int) by omega]
        have := ih (l.drop (runP isZ 255 l)) (out ++ [ofS w] ++ nzS w ++ [((runP isZ 255 l : Nat) : Int)]) (by rw [List.length_drop]; omega) (hL.drop _) (by rw [List.length_drop]; omega) (by simp only [List.length_append, List.length_cons, List.length_nil, List.length_drop]; omega)
        simpa [List.append_assoc] using this
      · rw [if_neg h0]
        refine Ev.congr (fun k => if_neg h0) ?_
        by_cases h1 : ofS w = 255
        · rw [if_pos h1]
          have hr := runP_length denseS 255 l
          have hr2 := runP_le denseS 255 l
          refine Ev.congr (fun k => if_pos h1) (Ev.bind (packRunD l (by omega)) ?_)
          refine Ev.congr (fun k => if_pos (by first | (simp; done) | (simp; omega))) (Ev.congr (fun k => if_pos (by omega)) (Ev.congr (fun k => if_pos (by omega)) ?_))
          rw [Int.toNat_natCast, show ((runP denseS 255 l : Nat) : Int) % 256 = ((runP denseS 255 l : Nat) : Int) by omega]
          have hb := bytesS_length (l.take (runP denseS 255 l))
          rw [List.length_take, Nat.min_eq_left hr] at hb
          refine Ev.bind (wordBytes _ (by rw [List.length_take]; omega)) (Ev.congr (fun k => if_pos (by first | (simp; done) | (simp; omega))) ?_)
          have := ih (l.drop (runP denseS 255 l)) (out ++ [ofS w] ++ nzS w ++ [((runP denseS 255 l : Nat) : Int)] ++ bytesS (l.take (runP denseS 255 l))) (by rw [List.length_drop]; omega) (hL.drop _) (by rw [List.length_drop]; omega) (by simp only [List.length_append, List.length_cons, List.length_nil, List.length_drop, hb]; omega)
          simpa [List.append_assoc] using this
        · rw [if_neg h1]
          have h7 := ofS_lt8 h1
          refine Ev.congr (fun k => if_neg h1) ?_
          have := ih l (out ++ [ofS w] ++ nzS w) (by omega) hL (by omega) (by simp only [List.length_append, List.length_cons, List.length_nil]; omega)
          simpa [List.append_assoc] using this
theorem packWords (l : List Int) (hW : IsW l) (hl : l.length ≤ 1000000000) : Ev (fun k => pack_Words.f k l) (packS l) := by
  have := packWords_l0 l.length l [] (Nat.le_refl _) hW (by omega) (by first | (simp; done) | (simp; omega))
  rwa [List.nil_append] at this
theorem packBytes_yes (b : List Int) (hB : IsB b) (hb : b.length ≤ 1000000000) (h8 : b.length % 8 = 0) : Ev (fun k => pack_Bytes.f k b) (packS (wordsS b), 0) := by
  unfold pack_Bytes.f
  refine Ev.bind (wordWords_yes b hB (by omega) h8) (Ev.congr (fun k => if_pos (by simp)) (Ev.bind (packWords _ (wordsS_W hB) (by rw [wordsS_length]; omega)) (Ev.now _)))
theorem packBytes_no (b : List Int) (h8 : b.length % 8 ≠ 0) : Ev (fun k => pack_Bytes.f k b) ([], 9) := by
  unfold pack_Bytes.f
  exact Ev.bind (wordWords_no b h8) (Ev.congr (fun k => if_neg (by simp)) (Ev.now _))
theorem awakeTop : Ev (fun k => capnptop_awake.f k) true := Ev.of (fun k => capnptop_awake.mono k) (k := 60) (by kernel_rfl)
theorem refGet_step (b : List Int) (i : Nat) (hb : b.length ≤ 140737488351232) (hi : i < b.length / 8) (j : Nat) (hj : j < 8) (acc : Int) (ha0 : 0 ≤ acc) (ha1 : acc < 72057594037927936) (hx : 0 ≤ rd b ((8 * i + j : Nat) : Int) ∧ rd b ((8 * i + j : Nat) : Int) < 256) (k : Nat) : capnpref01_Get.l0 (k + 1) b (i : Int) acc (((j + 1 : Nat) : Int) - 1) = capnpref01_Get.l0 k b (i : Int) (rd b ((8 * i + j : Nat) : Int) + 256 * acc) ((j : Int) - 1) := by
  have e0 : wrap64 (8 * (i : Int)) = 8 * (i : Int) := w64 (by omega) (by omega)
  have e1 : wrap64 (wrap64 (8 * (i : Int)) + (((j + 1 : Nat) : Int) - 1)) = ((8 * i + j : Nat) : Int) := by rw [e0, w64 (by omega) (by omega)]; omega
  simp only [capnpref01_Get.l0]
  rw [if_pos (by omega), e1, if_pos (by omega), if_pos (by omega), wu (x := acc * 256) (by omega) (by omega), wu (x := rd b _) (by omega) (by omega), wu (by omega) (by omega), w64 (by omega) (by omega), Int.mul_comm acc, Int.add_comm (256 * acc), show ((j + 1 : Nat) : Int) - 1 - 1 = (j : Int) - 1 by omega]
theorem chunk_rd' {b : List Int} {i : Nat} (hi : i < b.length / 8) {j : Nat} (hj : j < 8) : rd (chunk b i) (j : Int) = rd b ((8 * i + j : Nat) : Int) := by
  have hl := chunk_length hi
  rw [rd_lt (by omega), rd_lt (by omega)]
  simp [chunk]
theorem pow256_le {n : Nat} (h : n ≤ 7) : (256 : Int) ^ n ≤ 72057594037927936 := by
  have h1 : (256 : Nat) ^ n ≤ 256 ^ 7 := Nat.pow_le_pow_right (by decide) h
  have h2 : ((256 ^ n : Nat) : Int) ≤ ((256 ^ 7 : Nat) : Int) := Int.ofNat_le.mpr h1
  rw [Int.natCast_pow] at h2
  exact h2
theorem refGet_l0 (b : List Int) (hB : IsB b) (i : Nat) (hb : b.length ≤ 140737488351232) (hi : i < b.length / 8) : ∀ j : Nat, j ≤ 8 → ∀ acc : Int, acc = val ((chunk b i).drop j) → Ev (fun k => capnpref01_Get.l0 k b (i : Int) acc ((j : Int) - 1)) (getS b i, true) := by
  intro j
  induction j with
  | zero =>
    intro hj acc h
    refine Ev.step (f := fun _ => some (acc, true)) (fun k => ?_) ?_
    · simp only [capnpref01_Get.l0]; rw [if_neg (by omega)]
    · rw [h]; exact Ev.now _
  | succ j ih =>
    intro hj acc h
    have hC := chunk_B hB i
    have hl := chunk_length hi
    have hj8 : j < 8 := by omega
    have hjl : j < (chunk b i).length := by omega
    have hd : ((chunk b i).drop (j + 1)).length ≤ 7 := by rw [List.length_drop]; omega
    have hacc0 := val_nonneg _ (hC.drop (j + 1))
    have hacc1 := val_lt _ (hC.drop (j + 1))
    rw [← h] at hacc0 hacc1
    have hacc2 := Int.lt_of_lt_of_le hacc1 (pow256_le hd)
    clear hacc1
    refine Ev.step (refGet_step b i hb hi j hj8 acc hacc0 hacc2 (rd_B hB _)) (ih (by omega) _ ?_)
    rw [drop_rd hjl, chunk_rd' hi hj8, h]; rfl
theorem refGet_yes (b : List Int) (hB : IsB b) (i : Nat) (hb : b.length ≤ 140737488351232) (hi : i < b.length / 8) : Ev (fun k => capnpref01_Get.f k b (i : Int)) (getS b i, true) := by
  refine Ev.congr (f := fun k => capnpref01_Get.j0 k b (i : Int) false) (fun k => ?_) (Ev.step (f := fun k => capnpref01_Get.l0 k b (i : Int) 0 (((8 : Nat) : Int) - 1)) (fun k => ?_) (refGet_l0 b hB i hb hi 8 (by omega) 0 ?_))
  · unfold capnpref01_Get.f
    rw [if_neg (by omega), w64 (x := (b.length : Int) / 8) (by omega) (by omega), w64 (by omega) (by omega), decide_eq_false (by omega)]
  · simp only [capnpref01_Get.j0]; rfl
  · rw [List.drop_of_length_le (by rw [chunk_length hi]; omega)]; rfl
theorem refWords_l0 (b : List Int) (hB : IsB b) (hb : b.length ≤ 140737488351232) : ∀ d i : Nat, i + d = b.length / 8 → ∀ acc : List Int, acc = (List.range i).map (getS b) → Ev (fun k => capnpref01_Words.l0 k b acc (i : Int)) (wordsS b, true) := by
  intro d
  induction d with
  | zero =>
    intro i hi acc h
    refine Ev.step (f := fun _ => some (acc, true)) (fun k => ?_) ?_
    · simp only [capnpref01_Words.l0]; rw [w64 (by omega) (by omega), if_neg (by omega)]
    · rw [h, show i = b.length / 8 by omega]; exact Ev.now _
  | succ d ih =>
    intro i hi acc h
    have hl : acc.length = i := by rw [h]; simp
    refine Ev.step (f := fun k => (capnpref01_Get.f k b (i : Int)).bind fun t => capnpref01_Words.l0 k b (acc ++ [t.1]) ((i + 1 : Nat) : Int)) (fun k => ?_) (Ev.bind (refGet_yes b hB i hb (by omega)) (ih (i + 1) (by omega) _ ?_))
    · simp only [capnpref01_Words.l0]
      rw [w64 (x := (b.length : Int) / 8) (by omega) (by omega), if_pos (by omega), w64 (by omega) (by omega), show (i : Int) + 1 = ((i + 1 : Nat) : Int) by omega]
      simp only [if_pos (show acc.length < 17592186044416 by omega)]
    · rw [h, List.range_succ, List.map_append]; rfl
theorem refWords_yes (b : List Int) (hB : IsB b) (hb : b.length ≤ 140737488351232) (h8 : b.length % 8 = 0) : Ev (fun k => capnpref01_Words.f k b) (wordsS b, true) := by
  refine Ev.congr (fun k => ?_) (refWords_l0 b hB hb (b.length / 8) 0 (by omega) [] rfl)
  unfold capnpref01_Words.f
  rw [if_pos (by omega)]; rfl
theorem refWords_no (b : List Int) (h8 : b.length % 8 ≠ 0) : Ev (fun k => capnpref01_Words.f k b) ([], false) := by
  refine Ev.congr (fun k => ?_) (Ev.now _)
  unfold capnpref01_Words.f
  rw [if_neg (by omega)]
theorem strOf_inj : ∀ {a b : List Int}, IsB a → IsB b → ((strOfNums a).toList == (strOfNums b).toList) = decide (a = b) := by
  intro a b ha hb
  have key : ∀ (a b : List Int), IsB a → IsB b → (a.map fun n => UInt8.ofNat n.toNat) = (b.map fun n => UInt8.ofNat n.toNat) → a = b := by
    intro a
    induction a with
    | nil => intro b _ _ h; cases b with
      | nil => rfl
      | cons y b => simp at h
    | cons x a ih => intro b ha hb h; cases b with
      | nil => simp at h
      | cons y b =>
        simp only [List.map_cons, List.cons.injEq] at h
        have hx := ha x List.mem_cons_self
        have hy := hb y List.mem_cons_self
        have e := congrArg UInt8.toNat h.1
        rw [UInt8.toNat_ofNat', UInt8.toNat_ofNat', Nat.mod_eq_of_lt (by omega), Nat.mod_eq_of_lt (by omega)] at e
        rw [ih b (fun z hz => ha z (List.mem_cons_of_mem _ hz)) (fun z hz => hb z (List.mem_cons_of_mem _ hz)) h.2, show x = y by omega]
  by_cases h : a = b
  · subst h; simp
  · rw [decide_eq_false h]
    refine beq_eq_false_iff_ne.mpr fun e => h (key a b ha hb ?_)
    have e1 : ∀ x : List Int, (strOfNums x).toList = x.map fun n => UInt8.ofNat n.toNat := fun x => by
      rw [show (strOfNums x).toList = (strOfNums x).data.toList by rw [ByteArray.toList_eq]]; rfl
    rw [← e1, ← e1]; exact e
theorem gramAccepts {p ws : List Int} (hB : IsB p) (hp : p.length ≤ 1000000) (hW : IsW ws) (hw : ws.length ≤ 1000000) : Ev (fun k => grammar_Accepts.f k p ws) (decide ((decS p).2 = false ∧ (decS p).1 = ws)) := by
  have e8 : wrap64 (8 * (ws.length : Int)) = 8 * (ws.length : Int) := w64 (by omega) (by omega)
  have hU := unBytes hB (by omega : p.length ≤ 1000000000) (8 * (ws.length : Int)) (by omega)
  have em : (max (8 * (ws.length : Int)) 0 / 8).toNat = ws.length := by omega
  rw [em] at hU
  by_cases h1 : ws.length < (decS p).1.length
  · rw [if_pos h1] at hU
    rw [decide_eq_false (fun h => by have := congrArg List.length h.2; omega)]
    refine Ev.congr (f := fun _ => some false) (fun k => ?_) (Ev.now _)
    unfold grammar_Accepts.f
    rw [e8, hU, Option.bind_some, if_neg (by decide)]
  · rw [if_neg h1] at hU
    by_cases h2 : (decS p).2 = true
    · rw [if_pos h2] at hU
      rw [decide_eq_false (fun h => by rw [h2] at h; exact absurd h.1 (by decide))]
      refine Ev.congr (f := fun _ => some false) (fun k => ?_) (Ev.now _)
      unfold grammar_Accepts.f
      rw [e8, hU, Option.bind_some, if_neg (by decide)]
    · rw [if_neg h2] at hU
      have h3 : (decS p).2 = false := by simpa using h2
      refine Ev.congr (f := fun k => (word_Bytes.f k ws).bind fun t => some ((strOfNums (bytesS (decS p).1)).toList == (strOfNums t).toList)) (fun k => ?_) (Ev.bind (wordBytes ws (by omega)) ?_)
      · unfold grammar_Accepts.f
        rw [e8, hU, Option.bind_some, if_pos rfl]
      · rw [strOf_inj (bytesS_B _) (bytesS_B _)]
        have e : decide (bytesS (decS p).1 = bytesS ws) = decide ((decS p).2 = false ∧ (decS p).1 = ws) := by
          refine decide_eq_decide.mpr ⟨fun h => ⟨h3, ?_⟩, fun h => by rw [h.2]⟩
          have := congrArg wordsS h
          rwa [wordsS_bytesS _ (Un.decS_W' hB), wordsS_bytesS _ hW] at this
        rw [e]
        exact Ev.now _
theorem grpOf {p : List Int} (hB : IsB p) (hp : p.length ≤ 1000000) (h0 : 0 < p.length) : grammar_group.f p = some (Un.grpS p) := by
  unfold grammar_group.f Un.grpF
  rw [if_pos ⟨h0, by omega, hB⟩]
def Gs : List S79 → List Int → Nat → Nat → Prop
  | [], p, _, _ => p = []
  | g :: L, p, a, n => ∃ (tt nn : Nat) (W : List Int), 0 < p.length ∧ 1 ≤ tt ∧ tt ≤ p.length ∧ 1 ≤ nn ∧ nn ≤ 256 ∧ W.length = nn ∧ decS (p.take tt) = (W, false) ∧ decS p = (W ++ (decS (p.drop tt)).1, (decS (p.drop tt)).2) ∧
      (g = ⟨rd p 0, (a : Int), ((a + tt : Nat) : Int), (n : Int), (nn : Int)⟩ ∧ Un.grpS p = (rd p 0, 0, (tt : Int), 0, (nn : Int), true)) ∧ Gs L (p.drop tt) (a + tt) (n + nn)
theorem groups_l0 (p : List Int) (hB : IsB p) (hp : p.length ≤ 1000000) : ∀ m a : Nat, p.length - a ≤ m → a ≤ p.length → ∀ (n : Nat) (acc : List S79), n ≤ 256 * a → acc.length ≤ a →
    ((decS (p.drop a)).2 = true ∧ Ev (fun k => grammar_Groups.l0 k p acc (a : Int) (n : Int)) ([], 10)) ∨
    ((decS (p.drop a)).2 = false ∧ ∃ L, Gs L (p.drop a) a n ∧ Ev (fun k => grammar_Groups.l0 k p acc (a : Int) (n : Int)) (acc ++ L, 0)) := by
  intro m
  induction m with
  | zero =>
    intro a hm ha n acc hn hacc
    have e : p.drop a = [] := List.drop_of_length_le (by omega)
    refine .inr ⟨by rw [e]; rfl, [], by rw [e]; rfl, ?_⟩
    rw [List.append_nil]
    exact Ev.step (f := fun _ => some (acc, 0)) (fun k => by simp only [grammar_Groups.l0]; rw [if_neg (by omega)]) (Ev.now _)
  | succ m ih =>
    intro a hm ha n acc hn hacc
    by_cases hq : a < p.length
    · have hd : 0 < (p.drop a).length := by rw [List.length_drop]; omega
      have hg := grpOf (hB.drop a) (by rw [List.length_drop]; omega) hd
      rcases Un.grp_case (hB.drop a) hd with ⟨tt, nn, W, e1, e2, e3, e4, e5, e6, e7, e8⟩ | ⟨e1, e2⟩
      · rw [List.length_drop] at e3
        have st : ∀ k, grammar_Groups.l0 (k + 1) p acc (a : Int) (n : Int) = grammar_Groups.l0 k p (acc ++ [(⟨rd (p.drop a) 0, (a : Int), ((a + tt : Nat) : Int), (n : Int), (nn : Int)⟩ : S79)]) ((a + tt : Nat) : Int) ((n + nn : Nat) : Int) := by
          intro k
          simp only [grammar_Groups.l0]
          rw [if_pos (by omega), if_pos (by omega), if_pos (by omega), Int.toNat_natCast, hg, e1]
          simp only [Option.bind_some, if_true]
          rw [if_pos (by omega), w64 (x := (a : Int) + (tt : Int)) (by omega) (by omega), w64 (x := (n : Int) + (nn : Int)) (by omega) (by omega)]
          rfl
        have hdd : (p.drop a).drop tt = p.drop (a + tt) := by rw [List.drop_drop]
        rcases ih (a + tt) (by omega) (by omega) (n + nn) (acc ++ [⟨rd (p.drop a) 0, (a : Int), ((a + tt : Nat) : Int), (n : Int), (nn : Int)⟩]) (by omega) (by rw [List.length_append, List.length_singleton]; omega) with ⟨f1, f2⟩ | ⟨f1, L, f2, f3⟩
        · refine .inl ⟨by rw [e8, hdd]; exact f1, Ev.step st f2⟩
        · refine .inr ⟨by rw [e8, hdd]; exact f1, _ :: L, ⟨tt, nn, W, hd, e2, by rw [List.length_drop]; exact e3, e4, e5, e6, e7, e8, ⟨rfl, e1⟩, by rw [hdd]; exact f2⟩, ?_⟩
          rw [List.append_assoc] at f3
          exact Ev.step st f3
      · refine .inl ⟨e2, Ev.step (f := fun _ => some ([], 10)) (fun k => ?_) (Ev.now _)⟩
        simp only [grammar_Groups.l0]
        rw [if_pos (by omega), if_pos (by omega), if_pos (by omega), Int.toNat_natCast, hg]
        simp only [Option.bind_some]
        rw [if_neg (by rw [e1]; simp)]
    · have e : p.drop a = [] := List.drop_of_length_le (by omega)
      refine .inr ⟨by rw [e]; rfl, [], by rw [e]; rfl, ?_⟩
      rw [List.append_nil]
      exact Ev.step (f := fun _ => some (acc, 0)) (fun k => by simp only [grammar_Groups.l0]; rw [if_neg (by omega)]) (Ev.now _)
theorem gramGroups {p : List Int} (hB : IsB p) (hp : p.length ≤ 1000000) :
    ((decS p).2 = true ∧ Ev (fun k => grammar_Groups.f k p) ([], 10)) ∨ ((decS p).2 = false ∧ ∃ L, Gs L p 0 0 ∧ Ev (fun k => grammar_Groups.f k p) (L, 0)) :=
  groups_l0 p hB hp p.length 0 (by omega) (by omega) 0 [] (by omega) (by simp)
theorem Gs_words : ∀ (L : List S79) (p : List Int) (a n : Nat), Gs L p a n → (L.map (fun g => g.f4.toNat)).sum = (decS p).1.length
  | [], p, _, _, h => by obtain rfl : p = [] := h; rfl
  | g :: L, p, a, n, ⟨tt, nn, W, _, _, _, _, _, h1, _, h2, ⟨h3, _⟩, h4⟩ => by
    rw [List.map_cons, List.sum_cons, Gs_words L _ _ _ h4, h2, h3, List.length_append, h1]; rfl
theorem canon_l0 (p : List Int) (hB : IsB p) (hp : p.length ≤ 400000) (L : List S79) (hL : ∀ g ∈ L, 0 ≤ g.f4) (hn : L.length ≤ 1000000) (hs : (L.map (fun g => g.f4.toNat)).sum = (decS p).1.length) (h2 : (decS p).2 = false) (r : Bool) (hr : r = decide (p = packS (decS p).1)) :
    ∀ d i : Nat, i + d = L.length → ∀ s : Nat, s + ((L.drop i).map (fun g => g.f4.toNat)).sum = (decS p).1.length → Ev (fun k => grammar_Canonical.l0 k p (s : Int) L (L.length : Int) (i : Int)) r := by
  have hlen := Un.decS_len' hB
  intro d
  induction d with
  | zero =>
    intro i hi s hsum
    rw [List.drop_of_length_le (by omega)] at hsum
    simp only [List.map_nil, List.sum_nil, Nat.add_zero] at hsum
    have hU := unBytes hB (by omega : p.length ≤ 1000000000) (8 * (s : Int)) (by omega)
    rw [show (max (8 * (s : Int)) 0 / 8).toNat = s by omega, if_neg (by omega), if_neg (by rw [h2]; decide)] at hU
    have hP := packBytes_yes (bytesS (decS p).1) (bytesS_B _) (by rw [bytesS_length]; omega) (by rw [bytesS_length]; omega)
    rw [wordsS_bytesS _ (Un.decS_W' hB)] at hP
    refine Ev.step (f := fun k => (pack_Bytes.f k (bytesS (decS p).1)).bind fun b => some ((strOfNums p).toList == (strOfNums b.1).toList)) (fun k => ?_) (Ev.bind hP ?_)
    · simp only [grammar_Canonical.l0]
      rw [if_neg (by omega), w64 (x := 8 * (s : Int)) (by omega) (by omega), hU]; rfl
    · dsimp only
      rw [strOf_inj hB (packS_isB _), hr]
      exact Ev.now _
  | succ d ih =>
    intro i hi s hsum
    have hlt : i < L.length := by omega
    have hdr : L.drop i = L[i] :: L.drop (i + 1) := List.drop_eq_getElem_cons hlt
    rw [hdr, List.map_cons, List.sum_cons] at hsum
    have hg := hL L[i] (List.getElem_mem hlt)
    have hrd : rd_T79 L (i : Int) = L[i] := by simp [rd_T79, List.getD_eq_getElem?_getD, List.getElem?_eq_getElem hlt]
    refine Ev.step (fun k => ?_) (ih (i + 1) (by omega) (s + L[i].f4.toNat) (by omega))
    simp only [grammar_Canonical.l0]
    rw [if_pos (by omega), if_pos (by omega), if_pos (by omega), hrd, w64 (x := (s : Int) + L[i].f4) (by omega) (by omega), wrap_succ i (by omega), show ((s : Int) + L[i].f4) = ((s + L[i].f4.toNat : Nat) : Int) by omega]
theorem Gs_pos : ∀ (L : List S79) (p : List Int) (a n : Nat), Gs L p a n → (∀ g ∈ L, 0 ≤ g.f4) ∧ L.length ≤ p.length
  | [], p, _, _, h => ⟨fun g hg => by simp at hg, by simp⟩
  | g :: L, p, a, n, ⟨tt, nn, W, h0, h5, h6, _, _, _, _, _, ⟨h3, _⟩, h4⟩ => by
    have ih := Gs_pos L _ _ _ h4
    refine ⟨fun x hx => ?_, ?_⟩
    · rcases List.mem_cons.mp hx with rfl | hx
      · rw [h3]; simp only []; omega
      · exact ih.1 x hx
    · have := ih.2; rw [List.length_drop] at this; rw [List.length_cons]; omega
theorem gramCanonical {p : List Int} (hB : IsB p) (hp : p.length ≤ 400000) : Ev (fun k => grammar_Canonical.f k p) (decide ((decS p).2 = false ∧ p = packS (decS p).1)) := by
  unfold grammar_Canonical.f
  rcases gramGroups hB (by omega) with ⟨h1, h2⟩ | ⟨h1, L, h2, h3⟩
  · rw [decide_eq_false (fun h => by rw [h1] at h; exact absurd h.1 (by decide))]
    exact Ev.bind h2 (Ev.congr (fun k => if_neg (by decide)) (Ev.now _))
  · have hpos := Gs_pos L p 0 0 h2
    have hw := Gs_words L p 0 0 h2
    refine Ev.bind h3 (Ev.congr (fun k => if_pos rfl) (canon_l0 p hB hp L hpos.1 (by omega) hw h1 _ ?_ L.length 0 (by omega) 0 (by rw [List.drop_zero]; omega)))
    simp [h1]
theorem refSame_l0 (a b : List Int) (hl : a.length = b.length) (ha : a.length ≤ 140737488355328) : ∀ d i : Nat, i + d = a.length → Ev (fun k => capnpref01_Same.l0 k a b (i : Int)) (decide (a.drop i = b.drop i)) := by
  intro d
  induction d with
  | zero =>
    intro i hi
    refine Ev.step (f := fun _ => some true) (fun k => ?_) ?_
    · simp only [capnpref01_Same.l0]; rw [if_neg (by omega)]
    · rw [List.drop_of_length_le (by omega), List.drop_of_length_le (by omega), decide_eq_true rfl]; exact Ev.now _
  | succ d ih =>
    intro i hi
    rw [drop_rd (show i < a.length by omega), drop_rd (show i < b.length by omega)]
    by_cases e : rd a (i : Int) = rd b (i : Int)
    · refine Ev.step (f := fun k => capnpref01_Same.l0 k a b ((i + 1 : Nat) : Int)) (fun k => ?_) ?_
      · simp only [capnpref01_Same.l0]
        rw [if_pos (by omega), if_pos (by omega), if_pos (by omega), if_pos e, w64 (by omega) (by omega), show (i : Int) + 1 = ((i + 1 : Nat) : Int) by omega]
      · have := ih (i + 1) (by omega)
        simpa [e] using this
    · refine Ev.step (f := fun _ => some false) (fun k => ?_) ?_
      · simp only [capnpref01_Same.l0]
        rw [if_pos (by omega), if_pos (by omega), if_pos (by omega), if_neg e]
      · have : decide (rd a (i : Int) :: a.drop (i + 1) = rd b (i : Int) :: b.drop (i + 1)) = false := by simp [e]
        rw [this]; exact Ev.now _
theorem refSame (a b : List Int) (ha : a.length ≤ 140737488355328) : Ev (fun k => capnpref01_Same.f k a b) (decide (a = b)) := by
  by_cases hl : a.length = b.length
  · refine Ev.congr (fun k => ?_) (refSame_l0 a b hl ha a.length 0 (by omega))
    unfold capnpref01_Same.f
    rw [if_pos (by omega)]; rfl
  · refine Ev.congr (f := fun _ => some (decide (a = b))) (fun k => ?_) (Ev.now _)
    unfold capnpref01_Same.f
    rw [if_neg (by omega), decide_eq_false (fun h => hl (by rw [h]))]
end Go.Proofs.YthghblmffdfbaaaGreatDoor.QWholePack
