/- The printed functions of the law PackstreamChunks hold what their plain specifications say. -/
import Derived.Test.YtibkbgaonjdpiaaPPackstreamChunksx0C
import Derived.Test.YtibkbgaonjdpiaaPPackstreamChunksx1C
import Derived.Test.YtibkbgaonjdpiaaPPackstreamChunksx2C
import Derived.Test.YtibkbgaonjdpiaaPPackstreamChunksx3C
import Derived.Test.YtibkbgaonjdpiaaPPackstreamChunksx4C
import Derived.Test.YtibkbgaonjdpiaaPPackstreamChunksx5C
import Derived.Test.YtibkbgaonjdpiaaPPackstreamChunksx6C
import Derived.Test.YtibkbgaonjdpiaaPPackstreamChunksx7C
import Derived.Test.YtibkbgaonjdpiaaM6C
import Derived.Test.YtibkbgaonjdpiaaPw2C
import Derived.Test.YtibkbgaonjdpiaaPstC
import Derived.Test.YtibkbgaonjdpiaaQPaBaseC
namespace Go.Proofs.Ytibkbgaonjdpiaa.QPackstreamChunks
open Go Go.RowKit Go.Proofs.Ytibkbgaonjdpiaa Go.Proofs.Ytibkbgaonjdpiaa.M Go.Proofs.Ytibkbgaonjdpiaa.PPackstreamChunks Go.Proofs.YtibkbgaonjdpiaaW.PrintWords Go.Proofs.YtibkbgaonjdpiaaW.PrintLast Go.Proofs.YtibkbgaonjdpiaaW.PrintMore
open Go.Proofs.Ytibkbgaonjdpiaa.QPaBase (or_val wordGet_step chunk_rd wordGet_l0 wordGet_yes wordGet_no wordWords_l0 wordWords_yes wordWords_no wordBytes_l1 wordBytes_l0 wordBytes tagOf_step or_tag tagOf_l0 tagOf bitsOnes_all bitsOnes tagOnes tagDense tagBytes_l0 tagBytes)
open Go.Proofs.Ytibkbgaonjdpiaa.PPaBase
set_option linter.unusedVariables false
set_option linter.unusedSimpArgs false
set_option maxRecDepth 10000
set_option maxHeartbeats 1000000
theorem pkWrite {n : Nat} {rw p b : List Int} (hI : Ps.Inv 255 n rw) (hW : IsW rw) (hp : p.length < 8) (hpB : IsB p) (hbB : IsB b) (hb : b.length ≤ 1000000) :
    packstream_Write.f p (n : Int) (bytesS rw) b = some ((p ++ b).drop ((p ++ b).length / 8 * 8), Ps.toB (Ps.runW (wordsS ((p ++ b).take ((p ++ b).length / 8 * 8))) (n, rw, []))) := by
  have hv := Ps.V_of_Inv hI hW hp
  have hr := hI.rM
  show Ps.writeF p (n : Int) (bytesS rw) b = _
  rw [Ps.writeF_eq (by omega) (by rw [bytesS_length]; omega) hb hpB (bytesS_B _) hbB, if_pos hv]
  have := Ps.runB_W (wordsS ((p ++ b).take ((p ++ b).length / 8 * 8))) (n, rw, [])
  unfold Ps.writeS
  rw [← this]
  rfl
theorem pkClose (p : List Int) (z : Int) {r : List Int} (hB : IsB r) (hr : r.length ≤ 1000000) (hp : p.length ≤ 1000000) : Ev (fun k => packstream_Close.f k p z r) (if Ps.validB p z r = true then (if 0 < p.length then ([], 9) else (Ps.openB z r, 0)) else ([], 12)) := by
  unfold packstream_Close.f
  refine Ev.bind (Ps.packValid p z hB hr hp) ?_
  by_cases hv : Ps.validB p z r = true
  · refine Ev.congr (fun k => if_pos hv) ?_
    rw [if_pos hv]
    by_cases hp0 : 0 < p.length
    · rw [if_pos hp0]
      exact Ev.congr (fun k => if_pos (by omega)) (Ev.now _)
    · rw [if_neg hp0]
      obtain ⟨hI, _, h8, _⟩ := Ps.validB_IB hv
      have hz0 := hI.z0
      have hz1 := hI.z1
      have hrl := hI.rl
      refine Ev.congr (fun k => if_neg (by omega)) (Ev.congr (f := fun _ => some (Ps.openB z r, (0 : Int))) (fun k => ?_) (Ev.now _))
      show (Ps.openF z r).bind _ = _
      unfold Ps.openF
      rw [if_pos (by omega)]
      rfl
  · refine Ev.congr (fun k => if_neg hv) ?_
    rw [if_neg hv]
    exact Ev.now _
theorem refSame_l0 (a b : List Int) (hl : a.length = b.length) (ha : a.length ≤ 140737488355328) : ∀ d i : Nat, i + d = a.length → Ev (fun k => capnpref01_Same.l0 k a b (i : Int)) (decide (a.drop i = b.drop i)) := by
  intro d
  induction d with
  | zero =>
    intro i hi
    refine Ev.step (f := fun _ => some true) (fun k => ?_) ?_
    · simp only [capnpref01_Same.l0]; rw [if_neg (by omega)]
    · rw [List.drop_of_length_le (by omega), List.drop_of_length_le (by omega), decide_eq_true rfl]; exact Ev.now _
  | succ d ih =>
    intro i hi
    rw [drop_rd (show i < a.length by omega), drop_rd (show i < b.length by omega)]
    by_cases e : rd a (i : Int) = rd b (i : Int)
    · refine Ev.step (f := fun k => capnpref01_Same.l0 k a b ((i + 1 : Nat) : Int)) (fun k => ?_) ?_
      · simp only [capnpref01_Same.l0]
        rw [if_pos (by omega), if_pos (by omega), if_pos (by omega), if_pos e, w64 (by omega) (by omega), show (i : Int) + 1 = ((i + 1 : Nat) : Int) by omega]
      · have := ih (i + 1) (by omega)
        simpa [e] using this
    · refine Ev.step (f := fun _ => some false) (fun k => ?_) ?_
      · simp only [capnpref01_Same.l0]
        rw [if_pos (by omega), if_pos (by omega), if_pos (by omega), if_neg e]
      · have : decide (rd a (i : Int) :: a.drop (i + 1) = rd b (i : Int) :: b.drop (i + 1)) = false := by simp [e]
        rw [this]; exact Ev.now _
theorem refSame (a b : List Int) (ha : a.length ≤ 140737488355328) : Ev (fun k => capnpref01_Same.f k a b) (decide (a = b)) := by
  by_cases hl : a.length = b.length
  · refine Ev.congr (fun k => ?_) (refSame_l0 a b hl ha a.length 0 (by omega))
    unfold capnpref01_Same.f
    rw [if_pos (by omega)]; rfl
  · refine Ev.congr (f := fun _ => some (decide (a = b))) (fun k => ?_) (Ev.now _)
    unfold capnpref01_Same.f
    rw [if_neg (by omega), decide_eq_false (fun h => hl (by rw [h]))]
theorem awake24 : Ev (fun k => capnplaw24_awake.f k) true := Ev.of (fun k => capnplaw24_awake.mono k) (k := 60) (by kernel_rfl)
theorem refGet_step (b : List Int) (i : Nat) (hb : b.length ≤ 140737488351232) (hi : i < b.length / 8) (j : Nat) (hj : j < 8) (acc : Int) (ha0 : 0 ≤ acc) (ha1 : acc < 72057594037927936) (hx : 0 ≤ rd b ((8 * i + j : Nat) : Int) ∧ rd b ((8 * i + j : Nat) : Int) < 256) (k : Nat) : capnpref01_Get.l0 (k + 1) b (i : Int) acc (((j + 1 : Nat) : Int) - 1) = capnpref01_Get.l0 k b (i : Int) (rd b ((8 * i + j : Nat) : Int) + 256 * acc) ((j : Int) - 1) := by
  have e0 : wrap64 (8 * (i : Int)) = 8 * (i : Int) := w64 (by omega) (by omega)
  have e1 : wrap64 (wrap64 (8 * (i : Int)) + (((j + 1 : Nat) : Int) - 1)) = ((8 * i + j : Nat) : Int) := by rw [e0, w64 (by omega) (by omega)]; omega
  simp only [capnpref01_Get.l0]
  rw [if_pos (by omega), e1, if_pos (by omega), if_pos (by omega), wu (x := acc * 256) (by omega) (by omega), wu (x := rd b _) (by omega) (by omega), wu (by omega) (by omega), w64 (by omega) (by omega), Int.mul_comm acc, Int.add_comm (256 * acc), show ((j + 1 : Nat) : Int) - 1 - 1 = (j : Int) - 1 by omega]
theorem chunk_rd' {b : List Int} {i : Nat} (hi : i < b.length / 8) {j : Nat} (hj : j < 8) : rd (chunk b i) (j : Int) = rd b ((8 * i + j : Nat) : Int) := by
  have hl := chunk_length hi
  rw [rd_lt (by omega), rd_lt (by omega)]
  simp [chunk]
theorem pow256_le {n : Nat} (h : n ≤ 7) : (256 : Int) ^ n ≤ 72057594037927936 := by
  have h1 : (256 : Nat) ^ n ≤ 256 ^ 7 := Nat.pow_le_pow_right (by decide) h
  have h2 : ((256 ^ n : Nat) : Int) ≤ ((256 ^ 7 : Nat) : Int) := Int.ofNat_le.mpr h1
  rw [Int.natCast_pow] at h2
  exact h2
theorem refGet_l0 (b : List Int) (hB : IsB b) (i : Nat) (hb : b.length ≤ 140737488351232) (hi : i < b.length / 8) : ∀ j : Nat, j ≤ 8 → ∀ acc : Int, acc = val ((chunk b i).drop j) → Ev (fun k => capnpref01_Get.l0 k b (i : Int) acc ((j : Int) - 1)) (getS b i, true) := by
  intro j
  induction j with
  | zero =>
    intro hj acc h
    refine Ev.step (f := fun _ => some (acc, true)) (fun k => ?_) ?_
    · simp only [capnpref01_Get.l0]; rw [if_neg (by omega)]
    · rw [h]; exact Ev.now _
  | succ j ih =>
    intro hj acc h
    have hC := chunk_B hB i
    have hl := chunk_length hi
    have hj8 : j < 8 := by omega
    have hjl : j < (chunk b i).length := by omega
    have hd : ((chunk b i).drop (j + 1)).length ≤ 7 := by rw [List.length_drop]; omega
    have hacc0 := val_nonneg _ (hC.drop (j + 1))
    have hacc1 := val_lt _ (hC.drop (j + 1))
    rw [← h] at hacc0 hacc1
    have hacc2 := Int.lt_of_lt_of_le hacc1 (pow256_le hd)
    clear hacc1
    refine Ev.step (refGet_step b i hb hi j hj8 acc hacc0 hacc2 (rd_B hB _)) (ih (by omega) _ ?_)
    rw [drop_rd hjl, chunk_rd' hi hj8, h]; rfl
theorem refGet_yes (b : List Int) (hB : IsB b) (i : Nat) (hb : b.length ≤ 140737488351232) (hi : i < b.length / 8) : Ev (fun k => capnpref01_Get.f k b (i : Int)) (getS b i, true) := by
  refine Ev.congr (f := fun k => capnpref01_Get.j0 k b (i : Int) false) (fun k => ?_) (Ev.step (f := fun k => capnpref01_Get.l0 k b (i : Int) 0 (((8 : Nat) : Int) - 1)) (fun k => ?_) (refGet_l0 b hB i hb hi 8 (by omega) 0 ?_))
  · unfold capnpref01_Get.f
    rw [if_neg (by omega), w64 (x := (b.length : Int) / 8) (by omega) (by omega), w64 (by omega) (by omega), decide_eq_false (by omega)]
  · simp only [capnpref01_Get.j0]; rfl
  · rw [List.drop_of_length_le (by rw [chunk_length hi]; omega)]; rfl
theorem refWords_l0 (b : List Int) (hB : IsB b) (hb : b.length ≤ 140737488351232) : ∀ d i : Nat, i + d = b.length / 8 → ∀ acc : List Int, acc = (List.range i).map (getS b) → Ev (fun k => capnpref01_Words.l0 k b acc (i : Int)) (wordsS b, true) := by
  intro d
  induction d with
  | zero =>
    intro i hi acc h
    refine Ev.step (f := fun _ => some (acc, true)) (fun k => ?_) ?_
    · simp only [capnpref01_Words.l0]; rw [w64 (by omega) (by omega), if_neg (by omega)]
    · rw [h, show i = b.length / 8 by omega]; exact Ev.now _
  | succ d ih =>
    intro i hi acc h
    have hl : acc.length = i := by rw [h]; simp
    refine Ev.step (f := fun k => (capnpref01_Get.f k b (i : Int)).bind fun t => capnpref01_Words.l0 k b (acc ++ [t.1]) ((i + 1 : Nat) : Int)) (fun k => ?_) (Ev.bind (refGet_yes b hB i hb (by omega)) (ih (i + 1) (by omega) _ ?_))
    · simp only [capnpref01_Words.l0]
      rw [w64 (x := (b.length : Int) / 8) (by omega) (by omega), if_pos (by omega), w64 (by omega) (by omega), show (i : Int) + 1 = ((i + 1 : Nat) : Int) by omega]
      simp only [if_pos (show acc.length < 17592186044416 by omega)]
    · rw [h, List.range_succ, List.map_append]; rfl
theorem refWords_yes (b : List Int) (hB : IsB b) (hb : b.length ≤ 140737488351232) (h8 : b.length % 8 = 0) : Ev (fun k => capnpref01_Words.f k b) (wordsS b, true) := by
  refine Ev.congr (fun k => ?_) (refWords_l0 b hB hb (b.length / 8) 0 (by omega) [] rfl)
  unfold capnpref01_Words.f
  rw [if_pos (by omega)]; rfl
theorem refWords_no (b : List Int) (h8 : b.length % 8 ≠ 0) : Ev (fun k => capnpref01_Words.f k b) ([], false) := by
  refine Ev.congr (fun k => ?_) (Ev.now _)
  unfold capnpref01_Words.f
  rw [if_neg (by omega)]
theorem refBytes_l1 (x0 : List Int) (x4 r) : ∀ d j : Nat, j + d = 8 → ∀ (x3 : List Int) (w : Int), 0 ≤ w → w < 18446744073709551616 → x3.length + d < 140737488355328 → Ev (fun k => capnpref01_Bytes.l0 k x0 (x3 ++ bs d w) (wrap64 (x4 + 1))) r → Ev (fun k => capnpref01_Bytes.l1 k x0 x3 x4 w (j : Int)) r := by
  intro d
  induction d with
  | zero =>
    intro j hj x3 w h0 h1 hl h
    obtain rfl : j = 8 := by omega
    refine Ev.step (fun k => ?_) h
    simp only [capnpref01_Bytes.l1]
    rw [if_neg (by omega)]
    simp [bs]
  | succ d ih =>
    intro j hj x3 w h0 h1 hl h
    refine Ev.step (f := fun k => capnpref01_Bytes.l1 k x0 (x3 ++ [w % 256]) x4 (w / 256) ((j + 1 : Nat) : Int)) (fun k => ?_) (ih (j + 1) (by omega) _ _ (by omega) (by omega) (by simp; omega) ?_)
    · simp only [capnpref01_Bytes.l1]
      rw [if_pos (by omega), if_pos (by omega), w64 (by omega) (by omega), Int.tmod_eq_emod_of_nonneg h0, Int.tdiv_eq_ediv_of_nonneg h0, wu (by omega) (by omega), show w % 256 % 256 = w % 256 by omega, show (j : Int) + 1 = ((j + 1 : Nat) : Int) by omega]
    · simpa [bs] using h
theorem refBytes_l0 (x0 : List Int) (hW : IsW x0) (hx : x0.length * 8 < 140737488355328) : ∀ d i : Nat, i + d = x0.length → ∀ x3 : List Int, x3 = bytesS (x0.take i) → Ev (fun k => capnpref01_Bytes.l0 k x0 x3 (i : Int)) (bytesS x0) := by
  intro d
  induction d with
  | zero =>
    intro i hi x3 h
    refine Ev.step (f := fun _ => some x3) (fun k => ?_) ?_
    · simp only [capnpref01_Bytes.l0]; rw [if_neg (by omega)]
    · rw [h, List.take_of_length_le (by omega)]; exact Ev.now _
  | succ d ih =>
    intro i hi x3 h
    have hr := rd_W hW (i : Int)
    refine Ev.step (f := fun k => capnpref01_Bytes.l1 k x0 x3 (i : Int) (rd x0 (i : Int)) ((0 : Nat) : Int)) (fun k => ?_) (refBytes_l1 x0 _ _ 8 0 rfl _ _ hr.1 hr.2 ?_ ?_)
    · simp only [capnpref01_Bytes.l0]; rw [if_pos (by omega), if_pos (by omega)]; rfl
    · rw [h, bytesS_length, List.length_take]; omega
    · rw [w64 (by omega) (by omega), show (i : Int) + 1 = ((i + 1 : Nat) : Int) by omega]
      refine ih (i + 1) (by omega) _ ?_
      rw [take_rd (by omega), bytesS_append, h]; simp [bytesS]
theorem refBytes (l : List Int) (hW : IsW l) (hx : l.length * 8 < 140737488355328) : Ev (fun k => capnpref01_Bytes.f k l) (bytesS l) :=
  refBytes_l0 l hW hx l.length 0 (by omega) [] rfl
theorem refTagBytes_l0 (l : List Int) (hl : l.length = 8) : ∀ d i : Nat, i + d = 8 → ∀ x4 : List Int, x4 = nz (l.take i) → Ev (fun k => capnpref20_Bytes.l0 k l x4 (i : Int)) (nz l) := by
  intro d
  induction d with
  | zero =>
    intro i hi x4 h
    refine Ev.step (f := fun _ => some x4) (fun k => ?_) ?_
    · simp only [capnpref20_Bytes.l0]; rw [if_neg (by omega)]
    · rw [h, List.take_of_length_le (by omega)]; exact Ev.now _
  | succ d ih =>
    intro i hi x4 h
    have hx : x4.length ≤ 8 := by rw [h]; have := nz_length_le (l.take i); rw [List.length_take] at this; omega
    have ht : l.take (i + 1) = l.take i ++ [rd l (i : Int)] := take_rd (by omega)
    refine Ev.step (f := fun k => if rd l (i : Int) = 0 then capnpref20_Bytes.l0 k l x4 ((i + 1 : Nat) : Int) else capnpref20_Bytes.l0 k l (x4 ++ [rd l (i : Int)]) ((i + 1 : Nat) : Int)) (fun k => ?_) ?_
    · simp only [capnpref20_Bytes.l0]
      rw [if_pos (show (i : Int) < 8 by omega), if_pos (show 0 ≤ (i : Int) by omega), if_pos (show (i : Int) < (l.length : Int) by omega), wrap_succ i (by omega)]
      simp only [if_pos (show x4.length < 140737488355328 by omega)]
    · by_cases h0 : rd l (i : Int) = 0
      · refine Ev.congr (fun k => if_pos h0) (ih (i + 1) (by omega) _ ?_)
        rw [ht, nz_append, nz_cons, if_pos h0, nz_nil, List.append_nil, h]
      · refine Ev.congr (fun k => if_neg h0) (ih (i + 1) (by omega) _ ?_)
        rw [ht, nz_append, nz_cons, if_neg h0, nz_nil, h]
theorem refTagBytes (w : Int) (h0 : 0 ≤ w) (h1 : w < 18446744073709551616) : Ev (fun k => capnpref20_Bytes.f k w) (nzS w) := by
  unfold capnpref20_Bytes.f
  refine Ev.bind (refBytes [w] (IsW.cons h0 h1 IsW.nil) (by simp)) ?_
  have e : bytesS [w] = bs 8 w := by simp [bytesS]
  rw [e]
  exact refTagBytes_l0 _ (bs_length 8 w) 8 0 rfl [] rfl
theorem refOf_l0 (l : List Int) (hl : l.length = 8) : ∀ d i : Nat, i + d = 8 → ∀ x4 x5 : Int, x4 = tagL (l.take i) → x5 = ((2 ^ i : Nat) : Int) → Ev (fun k => capnpref20_Of.l0 k l x4 x5 (i : Int)) (tagL l) := by
  intro d
  induction d with
  | zero =>
    intro i hi x4 x5 h h5
    have h1 := tagL_nonneg l
    have h2 := tagL_lt l
    rw [hl] at h2
    have e : x4 % 256 = tagL l := by rw [h, List.take_of_length_le (by omega)]; exact Int.emod_eq_of_lt h1 h2
    refine Ev.step (f := fun _ => some (x4 % 256)) (fun k => ?_) ?_
    · simp only [capnpref20_Of.l0]; rw [if_neg (by omega)]
    · rw [e]; exact Ev.now _
  | succ d ih =>
    intro i hi x4 x5 h h5
    have ht : l.take (i + 1) = l.take i ++ [rd l (i : Int)] := take_rd (by omega)
    have hlen : (l.take i).length = i := by rw [List.length_take]; omega
    have h1 := tagL_nonneg (l.take i)
    have h2 := tagL_lt (l.take i)
    rw [hlen] at h2
    have h4 : (2 : Nat) ^ (i + 1) ≤ 2 ^ 8 := Nat.pow_le_pow_right (by decide) (by omega)
    rw [Nat.pow_succ] at h4
    rw [← h] at h1 h2
    have h2' : x4 < x5 := by rw [h5, Int.natCast_pow]; exact h2
    have hx5 : 0 ≤ x5 ∧ x5 ≤ 128 := by rw [h5]; exact ⟨Int.natCast_nonneg _, by omega⟩
    have e5 : x5 * 2 = ((2 ^ (i + 1) : Nat) : Int) := by rw [h5, Nat.pow_succ]; omega
    clear h2 h4
    refine Ev.step (f := fun k => if rd l (i : Int) = 0 then capnpref20_Of.l0 k l x4 (x5 * 2) ((i + 1 : Nat) : Int) else capnpref20_Of.l0 k l (x4 + x5) (x5 * 2) ((i + 1 : Nat) : Int)) (fun k => ?_) ?_
    · clear e5 h5 h
      simp only [capnpref20_Of.l0]
      rw [if_pos (show (i : Int) < 8 by omega), if_pos (show 0 ≤ (i : Int) by omega), if_pos (show (i : Int) < (l.length : Int) by omega), wrap_succ i (by omega), w64 (x := x5 * 2) (by omega) (by omega), w64 (x := x4 + x5) (by omega) (by omega)]
    · by_cases h0 : rd l (i : Int) = 0
      · refine Ev.congr (fun k => if_pos h0) (ih (i + 1) (by omega) _ _ ?_ e5)
        rw [ht, tagL_append, h0, h]; simp [tagL]
      · refine Ev.congr (fun k => if_neg h0) (ih (i + 1) (by omega) _ _ ?_ e5)
        rw [ht, tagL_append, hlen, h, h5, Int.natCast_pow]; simp [tagL, h0]
theorem refOf (w : Int) (h0 : 0 ≤ w) (h1 : w < 18446744073709551616) : Ev (fun k => capnpref20_Of.f k w) (ofS w) := by
  unfold capnpref20_Of.f
  refine Ev.bind (refBytes [w] (IsW.cons h0 h1 IsW.nil) (by simp)) ?_
  have e : bytesS [w] = bs 8 w := by simp [bytesS]
  rw [e]
  exact refOf_l0 _ (bs_length 8 w) 8 0 rfl 0 1 rfl rfl
theorem refDense (w : Int) (h0 : 0 ≤ w) (h1 : w < 18446744073709551616) : Ev (fun k => capnpref20_Dense.f k w) (decide (7 ≤ (nzS w).length)) := by
  unfold capnpref20_Dense.f
  refine Ev.bind (refTagBytes w h0 h1) ?_
  have e : decide (((nzS w).length : Int) ≥ 7) = decide (7 ≤ (nzS w).length) := by simp only [decide_eq_decide]; omega
  rw [e]; exact Ev.now _
theorem ref21_fin (x0 : List Int) (hW : IsW x0) (hx : x0.length ≤ 1000000000) (i n : Nat) (x3 r : List Int) (t : Int) (hin : i + n ≤ x0.length) (hn : n ≤ 255) (h3 : x3.length ≤ 100000000000000) (hr : t = 255 → Ev (fun k => capnpref21_Words.l0 k x0 (x3 ++ [(n : Int)] ++ bytesS ((x0.drop i).take n)) ((i + n : Nat) : Int)) r) (hr2 : t ≠ 255 → Ev (fun k => capnpref21_Words.l0 k x0 (x3 ++ [(n : Int)]) ((i + n : Nat) : Int)) r) (hstop : n < 255 → i + n < x0.length → (t = 0 → isZ (rd x0 ((i + n : Nat) : Int)) = false) ∧ (t = 255 → denseS (rd x0 ((i + n : Nat) : Int)) = false)) : Ev (fun k => capnpref21_Words.l1 k x0 x3 (i : Int) t (n : Int)) r := by
  have e1 : wrap64 ((i : Int) + (n : Int)) = ((i + n : Nat) : Int) := by rw [w64 (by omega) (by omega)]; omega
  have e2 : ((n : Int)) % 256 = (n : Int) := by omega
  have e3 : (x0.take ((i + n : Nat) : Int).toNat).drop ((i : Int)).toNat = (x0.drop i).take n := by
    rw [Int.toNat_natCast, Int.toNat_natCast, List.drop_take]; congr 1; omega
  have hb := bytesS_length ((x0.drop i).take n)
  rw [List.length_take, List.length_drop, Nat.min_eq_left (by omega)] at hb
  have hT : IsW ((x0.drop i).take n) := (hW.drop i).take n
  have fin255 : t = 255 → Ev (fun k => if x3.length < 140737488355328 then ((some (x3 ++ [(n : Int)] : List Int)).bind fun y => (if 0 ≤ (i : Int) then (if (i : Int) ≤ ((i + n : Nat) : Int) then (if ((i + n : Nat) : Int) ≤ (x0.length : Int) then ((capnpref01_Bytes.f k ((x0.drop i).take n)).bind fun q => (if y.length + q.length < 140737488355328 then (capnpref21_Words.l0 k x0 (y ++ q) ((i + n : Nat) : Int)) else (none))) else (none)) else (none)) else (none))) else (none)) r := by
    intro ht
    refine Ev.congr (fun k => if_pos (by omega)) ?_
    simp only [Option.bind_some]
    refine Ev.congr (fun k => if_pos (by omega)) (Ev.congr (fun k => if_pos (by omega)) (Ev.congr (fun k => if_pos (by omega)) (Ev.bind (refBytes _ hT (by rw [List.length_take, List.length_drop]; omega)) (Ev.congr (fun k => if_pos (by first | (simp; done) | (simp; omega))) (hr ht)))))
  have finN : t ≠ 255 → Ev (fun k => if x3.length < 140737488355328 then capnpref21_Words.l0 k x0 (x3 ++ [(n : Int)]) ((i + n : Nat) : Int) else none) r := fun ht => Ev.congr (fun k => if_pos (by omega)) (hr2 ht)
  have both : Ev (fun k => if x3.length < 140737488355328 then ((some (x3 ++ [(n : Int)] : List Int)).bind fun y => (if t = 255 then (if 0 ≤ (i : Int) then (if (i : Int) ≤ ((i + n : Nat) : Int) then (if ((i + n : Nat) : Int) ≤ (x0.length : Int) then ((capnpref01_Bytes.f k ((x0.drop i).take n)).bind fun q => (if y.length + q.length < 140737488355328 then (capnpref21_Words.l0 k x0 (y ++ q) ((i + n : Nat) : Int)) else (none))) else (none)) else (none)) else (none)) else (capnpref21_Words.l0 k x0 y ((i + n : Nat) : Int)))) else (none)) r := by
    by_cases ht : t = 255
    · have := fin255 ht
      simp only [if_pos ht]; exact this
    · have := finN ht
      simp only [if_neg ht, Option.bind_some]; exact this
  refine Ev.step (fun k => by simp only [capnpref21_Words.l1, e1, e2, e3]; rfl) ?_
  by_cases hlt : i + n < x0.length
  · refine Ev.congr (fun k => if_pos (by omega)) ?_
    by_cases h255 : n < 255
    · obtain ⟨s0, s1⟩ := hstop h255 hlt
      have hx0 := rd_W hW ((i + n : Nat) : Int)
      refine Ev.congr (fun k => if_pos (by omega)) ?_
      by_cases t0 : t = 0
      · have hz := s0 t0
        have hne : ¬ rd x0 ((i + n : Nat) : Int) = 0 := by simpa [isZ] using hz
        have t255 : ¬ t = 255 := by omega
        refine Ev.congr (fun k => if_pos t0) (Ev.congr (fun k => if_pos (by omega)) (Ev.congr (fun k => if_neg hne) (Ev.congr (fun k => if_neg t255) (finN t255))))
      · refine Ev.congr (fun k => if_neg t0) ?_
        by_cases t255 : t = 255
        · have hd := s1 t255
          refine Ev.congr (fun k => if_pos t255) (Ev.congr (fun k => if_pos (by omega)) (Ev.bind (refDense _ hx0.1 hx0.2) ?_))
          have hd' : decide (7 ≤ (nzS (rd x0 ((i + n : Nat) : Int))).length) = false := hd
          rw [hd']
          exact Ev.congr (fun k => if_neg (by simp)) (fin255 t255)
        · exact Ev.congr (fun k => if_neg t255) (finN t255)
    · exact Ev.congr (fun k => if_neg (by omega)) both
  · exact Ev.congr (fun k => if_neg (by omega)) both
theorem ref21_go (x0 : List Int) (hW : IsW x0) (hx : x0.length ≤ 1000000000) (i : Nat) (x3 : List Int) (t : Int) (p : Int → Bool) (r : List Int) (hp : (t = 0 ∧ p = isZ) ∨ (t = 255 ∧ p = denseS)) (hfin : Ev (fun k => capnpref21_Words.l1 k x0 x3 (i : Int) t ((runP p 255 (x0.drop i) : Nat) : Int)) r) : ∀ d n : Nat, n + d = runP p 255 (x0.drop i) → Ev (fun k => capnpref21_Words.l1 k x0 x3 (i : Int) t (n : Int)) r := by
  intro d
  have hle := runP_le p 255 (x0.drop i)
  have hlen := runP_length p 255 (x0.drop i)
  rw [List.length_drop] at hlen
  induction d with
  | zero => intro n hn; rw [show n = runP p 255 (x0.drop i) by omega]; exact hfin
  | succ d ih =>
    intro n hn
    have e1 : wrap64 ((i : Int) + (n : Int)) = ((i + n : Nat) : Int) := by rw [w64 (by omega) (by omega)]; omega
    have hall := runP_all p 255 (x0.drop i)
    have hx0 := rd_W hW ((i + n : Nat) : Int)
    have hpn : p (rd x0 ((i + n : Nat) : Int)) = true := by
      apply hall
      rw [rd_lt (by omega)]
      have hlt : n < ((x0.drop i).take (runP p 255 (x0.drop i))).length := by rw [List.length_take, List.length_drop]; omega
      have : ((x0.drop i).take (runP p 255 (x0.drop i)))[n] = x0[i + n] := by simp
      rw [← this]; exact List.getElem_mem hlt
    refine Ev.step (fun k => by simp only [capnpref21_Words.l1, e1, wrap_succ n (show n ≤ 140737488355328 by omega)]; rfl) ?_
    refine Ev.congr (fun k => if_pos (by omega)) (Ev.congr (fun k => if_pos (by omega)) ?_)
    rcases hp with ⟨ht, hp⟩ | ⟨ht, hp⟩
    · have hz : rd x0 ((i + n : Nat) : Int) = 0 := by rw [hp] at hpn; simpa [isZ] using hpn
      exact Ev.congr (fun k => if_pos ht) (Ev.congr (fun k => if_pos (by omega)) (Ev.congr (fun k => if_pos hz) (ih (n + 1) (by omega))))
    · have hd : decide (7 ≤ (nzS (rd x0 ((i + n : Nat) : Int))).length) = true := by rw [hp] at hpn; exact hpn
      refine Ev.congr (fun k => if_neg (by omega)) (Ev.congr (fun k => if_pos ht) (Ev.congr (fun k => if_pos (by omega)) (Ev.bind (refDense _ hx0.1 hx0.2) ?_)))
      rw [hd]
      exact Ev.congr (fun k => if_pos (by simp)) (ih (n + 1) (by omega))
theorem ref21_l0 (x0 : List Int) (hW : IsW x0) (hx : x0.length ≤ 1000000000) : ∀ (d i : Nat), i + d = x0.length → ∀ x3 : List Int, x3.length + 10 * d ≤ 100000000000 → Ev (fun k => capnpref21_Words.l0 k x0 x3 (i : Int)) (x3 ++ packS (x0.drop i)) := by
  intro d
  induction d using Nat.strongRecOn with
  | _ d ih =>
  intro i hi x3 h3
  by_cases hlt : i < x0.length
  · have hdr := drop_rd hlt
    have hw := rd_W hW (i : Int)
    have hz := nzS_length_le (rd x0 (i : Int))
    rw [hdr, packS_cons]
    have hL : IsW (x0.drop (i + 1)) := hW.drop _
    have hlen : (x0.drop (i + 1)).length = x0.length - (i + 1) := List.length_drop
    generalize hwe : rd x0 (i : Int) = w at *
    refine Ev.step (fun k => by simp only [capnpref21_Words.l0, hwe]; rfl) ?_
    refine Ev.congr (fun k => if_pos (by omega)) (Ev.congr (fun k => if_pos (by omega)) (Ev.bind (refOf w hw.1 hw.2) (Ev.congr (fun k => if_pos (by omega)) ?_)))
    simp only [Option.bind_some]
    refine Ev.bind (refTagBytes w hw.1 hw.2) (Ev.congr (fun k => if_pos (by first | (simp; done) | (simp; omega))) ?_)
    rw [wrap_succ i (by omega)]
    by_cases h0 : ofS w = 0
    · rw [if_pos h0]
      have hr := runP_length isZ 255 (x0.drop (i + 1))
      have hr2 := runP_le isZ 255 (x0.drop (i + 1))
      have hst := runP_stop isZ 255 (x0.drop (i + 1))
      refine Ev.congr (fun k => if_pos h0) (Ev.step (fun k => by simp only [capnpref21_Words.j1]; rfl) (Ev.congr (fun k => if_neg (by simp)) ?_))
      refine ref21_go x0 hW hx (i + 1) _ (ofS w) isZ _ (Or.inl ⟨h0, rfl⟩) ?_ (runP isZ 255 (x0.drop (i + 1))) 0 (by omega)
      refine ref21_fin x0 hW hx (i + 1) (runP isZ 255 (x0.drop (i + 1))) _ _ (ofS w) (by omega) hr2 (by simp only [List.length_append, List.length_cons, List.length_nil]; omega) (fun h => absurd h (by omega)) (fun _ => ?_) (fun h1 h2 => ⟨fun _ => ?_, fun h => absurd h (by omega)⟩)
      · have := ih (x0.length - (i + 1 + runP isZ 255 (x0.drop (i + 1)))) (by omega) (i + 1 + runP isZ 255 (x0.drop (i + 1))) (by omega) (x3 ++ [ofS w] ++ nzS w ++ [((runP isZ 255 (x0.drop (i + 1)) : Nat) : Int)]) (by simp only [List.length_append, List.length_cons, List.length_nil]; omega)
        rw [← List.drop_drop] at this
        simpa [List.append_assoc] using this
      · have := hst h1 (by omega)
        rwa [rd_drop] at this
    · rw [if_neg h0]
      refine Ev.congr (fun k => if_neg h0) ?_
      by_cases h1 : ofS w = 255
      · rw [if_pos h1]
        have hr := runP_length denseS 255 (x0.drop (i + 1))
        have hr2 := runP_le denseS 255 (x0.drop (i + 1))
        have hst := runP_stop denseS 255 (x0.drop (i + 1))
        have hb := bytesS_length ((x0.drop (i + 1)).take (runP denseS 255 (x0.drop (i + 1))))
        rw [List.length_take, Nat.min_eq_left hr] at hb
        rw [show (ofS w != 255) = false by simp [h1]]
        refine Ev.step (fun k => by simp only [capnpref21_Words.j1]; rfl) (Ev.congr (fun k => if_neg (by simp)) ?_)
        refine ref21_go x0 hW hx (i + 1) _ (ofS w) denseS _ (Or.inr ⟨h1, rfl⟩) ?_ (runP denseS 255 (x0.drop (i + 1))) 0 (by omega)
        refine ref21_fin x0 hW hx (i + 1) (runP denseS 255 (x0.drop (i + 1))) _ _ (ofS w) (by omega) hr2 (by simp only [List.length_append, List.length_cons, List.length_nil]; omega) (fun _ => ?_) (fun h => absurd h1 h) (fun h2 h3 => ⟨fun h => absurd h h0, fun _ => ?_⟩)
        · have := ih (x0.length - (i + 1 + runP denseS 255 (x0.drop (i + 1)))) (by omega) (i + 1 + runP denseS 255 (x0.drop (i + 1))) (by omega) (x3 ++ [ofS w] ++ nzS w ++ [((runP denseS 255 (x0.drop (i + 1)) : Nat) : Int)] ++ bytesS ((x0.drop (i + 1)).take (runP denseS 255 (x0.drop (i + 1))))) (by simp only [List.length_append, List.length_cons, List.length_nil, hb]; omega)
          rw [← List.drop_drop] at this
          simpa [List.append_assoc] using this
        · have := hst h2 (by omega)
          rwa [rd_drop] at this
      · rw [if_neg h1]
        have h7 := ofS_lt8 h1
        rw [show (ofS w != 255) = true by simp [h1]]
        refine Ev.step (fun k => by simp only [capnpref21_Words.j1]; rfl) (Ev.congr (fun k => if_pos (by simp)) ?_)
        have := ih (x0.length - (i + 1)) (by omega) (i + 1) (by omega) (x3 ++ [ofS w] ++ nzS w) (by simp only [List.length_append, List.length_cons, List.length_nil]; omega)
        simpa [List.append_assoc] using this
  · refine Ev.step (f := fun _ => some x3) (fun k => ?_) ?_
    · simp only [capnpref21_Words.l0]; rw [if_neg (by omega)]
    · rw [List.drop_of_length_le (by omega), packS_nil, List.append_nil]; exact Ev.now _
theorem ref21Words (l : List Int) (hW : IsW l) (hl : l.length ≤ 1000000000) : Ev (fun k => capnpref21_Words.f k l) (packS l) := by
  have := ref21_l0 l hW hl l.length 0 (by omega) [] (by first | (simp; done) | (simp; omega))
  rwa [List.nil_append, List.drop_zero] at this
theorem ref21Bytes_yes (b : List Int) (hB : IsB b) (hb : b.length ≤ 1000000000) (h8 : b.length % 8 = 0) : Ev (fun k => capnpref21_Bytes.f k b) (packS (wordsS b), 0) := by
  unfold capnpref21_Bytes.f
  refine Ev.bind (refWords_yes b hB (by omega) h8) (Ev.congr (fun k => if_pos (by simp)) (Ev.bind (ref21Words _ (wordsS_W hB) (by rw [wordsS_length]; omega)) (Ev.now _)))
theorem ref21Bytes_no (b : List Int) (h8 : b.length % 8 ≠ 0) : Ev (fun k => capnpref21_Bytes.f k b) ([], 9) := by
  unfold capnpref21_Bytes.f
  exact Ev.bind (refWords_no b h8) (Ev.congr (fun k => if_neg (by simp)) (Ev.now _))
end Go.Proofs.Ytibkbgaonjdpiaa.QPackstreamChunks
