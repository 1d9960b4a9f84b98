/- The printed functions of the law PackstreamMatchesReference hold what their plain specifications say. -/
import Derived.Test.YtibkbgaonjdpiaaPPackstreamMatchesReferencex0R
import Derived.Test.YtibkbgaonjdpiaaPPackstreamMatchesReferencex1R
import Derived.Test.YtibkbgaonjdpiaaPPackstreamMatchesReferencex2R
import Derived.Test.YtibkbgaonjdpiaaPPackstreamMatchesReferencex3R
import Derived.Test.YtibkbgaonjdpiaaPPackstreamMatchesReferencex4R
import Derived.Test.YtibkbgaonjdpiaaPPackstreamMatchesReferencex5R
import Derived.Test.YtibkbgaonjdpiaaPPackstreamMatchesReferencex6R
import Derived.Test.YtibkbgaonjdpiaaPPackstreamMatchesReferencex7R
import Derived.Test.YtibkbgaonjdpiaaPPackstreamMatchesReferencex8R
import Derived.Test.YtibkbgaonjdpiaaPPackstreamMatchesReferencex9R
import Derived.Test.YtibkbgaonjdpiaaPPackstreamMatchesReferencex10R
import Derived.Test.YtibkbgaonjdpiaaM6R
import Derived.Test.YtibkbgaonjdpiaaPwR
import Derived.Test.YtibkbgaonjdpiaaPst2R
import Derived.Test.YtibkbgaonjdpiaaQPaBaseR
namespace Go.Proofs.Ytibkbgaonjdpiaa.QPackstreamMatchesReference
open Go Go.RowKit Go.Proofs.Ytibkbgaonjdpiaa Go.Proofs.Ytibkbgaonjdpiaa.M Go.Proofs.Ytibkbgaonjdpiaa.PPackstreamMatchesReference Go.Proofs.YtibkbgaonjdpiaaW.PrintWords Go.Proofs.YtibkbgaonjdpiaaW.PrintLast Go.Proofs.YtibkbgaonjdpiaaW.PrintMore
open Go.Proofs.Ytibkbgaonjdpiaa.QPaBase (or_val wordGet_step chunk_rd wordGet_l0 wordGet_yes wordGet_no wordWords_l0 wordWords_yes wordWords_no wordBytes_l1 wordBytes_l0 wordBytes tagOf_step or_tag tagOf_l0 tagOf bitsOnes_all bitsOnes tagOnes tagDense tagBytes_l0 tagBytes)
open Go.Proofs.Ytibkbgaonjdpiaa.PPaBase
set_option linter.unusedVariables false
set_option linter.unusedSimpArgs false
set_option maxRecDepth 10000
set_option maxHeartbeats 1000000
theorem pkWrite {n : Nat} {rw p b : List Int} (hI : Ps.Inv 255 n rw) (hW : IsW rw) (hp : p.length < 8) (hpB : IsB p) (hbB : IsB b) (hb : b.length ≤ 1000000) :
    packstream_Write.f p (n : Int) (bytesS rw) b = some ((p ++ b).drop ((p ++ b).length / 8 * 8), Ps.toB (Ps.runW (wordsS ((p ++ b).take ((p ++ b).length / 8 * 8))) (n, rw, []))) := by
  have hv := Ps.V_of_Inv hI hW hp
  have hr := hI.rM
  show Ps.writeF p (n : Int) (bytesS rw) b = _
  rw [Ps.writeF_eq (by omega) (by rw [bytesS_length]; omega) hb hpB (bytesS_B _) hbB, if_pos hv]
  have := Ps.runB_W (wordsS ((p ++ b).take ((p ++ b).length / 8 * 8))) (n, rw, [])
  unfold Ps.writeS
  rw [← this]
  rfl
theorem pkClose (p : List Int) (z : Int) {r : List Int} (hB : IsB r) (hr : r.length ≤ 1000000) (hp : p.length ≤ 1000000) : Ev (fun k => packstream_Close.f k p z r) (if Ps.validB p z r = true then (if 0 < p.length then ([], 9) else (Ps.openB z r, 0)) else ([], 12)) := by
  unfold packstream_Close.f
  refine Ev.bind (Ps.packValid p z hB hr hp) ?_
  by_cases hv : Ps.validB p z r = true
  · refine Ev.congr (fun k => if_pos hv) ?_
    rw [if_pos hv]
    by_cases hp0 : 0 < p.length
    · rw [if_pos hp0]
      exact Ev.congr (fun k => if_pos (by omega)) (Ev.now _)
    · rw [if_neg hp0]
      obtain ⟨hI, _, h8, _⟩ := Ps.validB_IB hv
      have hz0 := hI.z0
      have hz1 := hI.z1
      have hrl := hI.rl
      refine Ev.congr (fun k => if_neg (by omega)) (Ev.congr (f := fun _ => some (Ps.openB z r, (0 : Int))) (fun k => ?_) (Ev.now _))
      show (Ps.openF z r).bind _ = _
      unfold Ps.openF
      rw [if_pos (by omega)]
      rfl
  · refine Ev.congr (fun k => if_neg hv) ?_
    rw [if_neg hv]
    exact Ev.now _
theorem refSame_l0 (a b : List Int) (hl : a.length = b.length) (ha : a.length ≤ 140737488355328) : ∀ d i : Nat, i + d = a.length → Ev (fun k => capnpref01_Same.l0 k a b (i : Int)) (decide (a.drop i = b.drop i)) := by
  intro d
  induction d with
  | zero =>
    intro i hi
    refine Ev.step (f := fun _ => some true) (fun k => ?_) ?_
    · simp only [capnpref01_Same.l0]; rw [if_neg (by omega)]
    · rw [List.drop_of_length_le (by omega), List.drop_of_length_le (by omega), decide_eq_true rfl]; exact Ev.now _
  | succ d ih =>
    intro i hi
    rw [drop_rd (show i < a.length by omega), drop_rd (show i < b.length by omega)]
    by_cases e : rd a (i : Int) = rd b (i : Int)
    · refine Ev.step (f := fun k => capnpref01_Same.l0 k a b ((i + 1 : Nat) : Int)) (fun k => ?_) ?_
      · simp only [capnpref01_Same.l0]
        rw [if_pos (by omega), if_pos (by omega), if_pos (by omega), if_pos e, w64 (by omega) (by omega), show (i : Int) + 1 = ((i + 1 : Nat) : Int) by omega]
      · have := ih (i + 1) (by omega)
        simpa [e] using this
    · refine Ev.step (f := fun _ => some false) (fun k => ?_) ?_
      · simp only [capnpref01_Same.l0]
        rw [if_pos (by omega), if_pos (by omega), if_pos (by omega), if_neg e]
      · have : decide (rd a (i : Int) :: a.drop (i + 1) = rd b (i : Int) :: b.drop (i + 1)) = false := by simp [e]
        rw [this]; exact Ev.now _
theorem refSame (a b : List Int) (ha : a.length ≤ 140737488355328) : Ev (fun k => capnpref01_Same.f k a b) (decide (a = b)) := by
  by_cases hl : a.length = b.length
  · refine Ev.congr (fun k => ?_) (refSame_l0 a b hl ha a.length 0 (by omega))
    unfold capnpref01_Same.f
    rw [if_pos (by omega)]; rfl
  · refine Ev.congr (f := fun _ => some (decide (a = b))) (fun k => ?_) (Ev.now _)
    unfold capnpref01_Same.f
    rw [if_neg (by omega), decide_eq_false (fun h => hl (by rw [h]))]
theorem ref24Same (p : List Int) (z : Int) (r p' : List Int) (z' : Int) (r' : List Int) (hp : p.length ≤ 140737488355328) (hr : r.length ≤ 140737488355328) : Ev (fun k => capnpref24_Same.f k p z r p' z' r') (decide (p = p' ∧ z = z' ∧ r = r')) := by
  unfold capnpref24_Same.f
  refine Ev.bind (refSame p p' hp) ?_
  by_cases h0 : p = p'
  · refine Ev.congr (fun k => if_pos (decide_eq_true h0)) ?_
    by_cases h1 : z = z'
    · refine Ev.congr (fun k => if_pos h1) (Ev.bind (refSame r r' hr) ?_)
      have e : decide (p = p' ∧ z = z' ∧ r = r') = decide (r = r') := by rw [decide_eq_decide]; exact ⟨fun h => h.2.2, fun h => ⟨h0, h1, h⟩⟩
      rw [e]; exact Ev.now _
    · rw [decide_eq_false (p := _ ∧ _) (fun h => h1 h.2.1)]
      exact Ev.congr (fun k => if_neg h1) (Ev.now _)
  · rw [decide_eq_false (p := _ ∧ _) (fun h => h0 h.1)]
    exact Ev.congr (fun k => if_neg (by simpa using h0)) (Ev.now _)
theorem awake24 : Ev (fun k => capnplaw24_awake.f k) true := Ev.of (fun k => capnplaw24_awake.mono k) (k := 60) (by kernel_rfl)
theorem refGet_step (b : List Int) (i : Nat) (hb : b.length ≤ 140737488351232) (hi : i < b.length / 8) (j : Nat) (hj : j < 8) (acc : Int) (ha0 : 0 ≤ acc) (ha1 : acc < 72057594037927936) (hx : 0 ≤ rd b ((8 * i + j : Nat) : Int) ∧ rd b ((8 * i + j : Nat) : Int) < 256) (k : Nat) : capnpref01_Get.l0 (k + 1) b (i : Int) acc (((j + 1 : Nat) : Int) - 1) = capnpref01_Get.l0 k b (i : Int) (rd b ((8 * i + j : Nat) : Int) + 256 * acc) ((j : Int) - 1) := by
  have e0 : wrap64 (8 * (i : Int)) = 8 * (i : Int) := w64 (by omega) (by omega)
  have e1 : wrap64 (wrap64 (8 * (i : Int)) + (((j + 1 : Nat) : Int) - 1)) = ((8 * i + j : Nat) : Int) := by rw [e0, w64 (by omega) (by omega)]; omega
  simp only [capnpref01_Get.l0]
  rw [if_pos (by omega), e1, if_pos (by omega), if_pos (by omega), wu (x := acc * 256) (by omega) (by omega), wu (x := rd b _) (by omega) (by omega), wu (by omega) (by omega), w64 (by omega) (by omega), Int.mul_comm acc, Int.add_comm (256 * acc), show ((j + 1 : Nat) : Int) - 1 - 1 = (j : Int) - 1 by omega]
theorem chunk_rd' {b : List Int} {i : Nat} (hi : i < b.length / 8) {j : Nat} (hj : j < 8) : rd (chunk b i) (j : Int) = rd b ((8 * i + j : Nat) : Int) := by
  have hl := chunk_length hi
  rw [rd_lt (by omega), rd_lt (by omega)]
  simp [chunk]
theorem pow256_le {n : Nat} (h : n ≤ 7) : (256 : Int) ^ n ≤ 72057594037927936 := by
  have h1 : (256 : Nat) ^ n ≤ 256 ^ 7 := Nat.pow_le_pow_right (by decide) h
  have h2 : ((256 ^ n : Nat) : Int) ≤ ((256 ^ 7 : Nat) : Int) := Int.ofNat_le.mpr h1
  rw [Int.natCast_pow] at h2
  exact h2
theorem refGet_l0 (b : List Int) (hB : IsB b) (i : Nat) (hb : b.length ≤ 140737488351232) (hi : i < b.length / 8) : ∀ j : Nat, j ≤ 8 → ∀ acc : Int, acc = val ((chunk b i).drop j) → Ev (fun k => capnpref01_Get.l0 k b (i : Int) acc ((j : Int) - 1)) (getS b i, true) := by
  intro j
  induction j with
  | zero =>
    intro hj acc h
    refine Ev.step (f := fun _ => some (acc, true)) (fun k => ?_) ?_
    · simp only [capnpref01_Get.l0]; rw [if_neg (by omega)]
    · rw [h]; exact Ev.now _
  | succ j ih =>
    intro hj acc h
    have hC := chunk_B hB i
    have hl := chunk_length hi
    have hj8 : j < 8 := by omega
    have hjl : j < (chunk b i).length := by omega
    have hd : ((chunk b i).drop (j + 1)).length ≤ 7 := by rw [List.length_drop]; omega
    have hacc0 := val_nonneg _ (hC.drop (j + 1))
    have hacc1 := val_lt _ (hC.drop (j + 1))
    rw [← h] at hacc0 hacc1
    have hacc2 := Int.lt_of_lt_of_le hacc1 (pow256_le hd)
    clear hacc1
    refine Ev.step (refGet_step b i hb hi j hj8 acc hacc0 hacc2 (rd_B hB _)) (ih (by omega) _ ?_)
    rw [drop_rd hjl, chunk_rd' hi hj8, h]; rfl
theorem refGet_yes (b : List Int) (hB : IsB b) (i : Nat) (hb : b.length ≤ 140737488351232) (hi : i < b.length / 8) : Ev (fun k => capnpref01_Get.f k b (i : Int)) (getS b i, true) := by
  refine Ev.congr (f := fun k => capnpref01_Get.j0 k b (i : Int) false) (fun k => ?_) (Ev.step (f := fun k => capnpref01_Get.l0 k b (i : Int) 0 (((8 : Nat) : Int) - 1)) (fun k => ?_) (refGet_l0 b hB i hb hi 8 (by omega) 0 ?_))
  · unfold capnpref01_Get.f
    rw [if_neg (by omega), w64 (x := (b.length : Int) / 8) (by omega) (by omega), w64 (by omega) (by omega), decide_eq_false (by omega)]
  · simp only [capnpref01_Get.j0]; rfl
  · rw [List.drop_of_length_le (by rw [chunk_length hi]; omega)]; rfl
theorem refWords_l0 (b : List Int) (hB : IsB b) (hb : b.length ≤ 140737488351232) : ∀ d i : Nat, i + d = b.length / 8 → ∀ acc : List Int, acc = (List.range i).map (getS b) → Ev (fun k => capnpref01_Words.l0 k b acc (i : Int)) (wordsS b, true) := by
  intro d
  induction d with
  | zero =>
    intro i hi acc h
    refine Ev.step (f := fun _ => some (acc, true)) (fun k => ?_) ?_
    · simp only [capnpref01_Words.l0]; rw [w64 (by omega) (by omega), if_neg (by omega)]
    · rw [h, show i = b.length / 8 by omega]; exact Ev.now _
  | succ d ih =>
    intro i hi acc h
    have hl : acc.length = i := by rw [h]; simp
    refine Ev.step (f := fun k => (capnpref01_Get.f k b (i : Int)).bind fun t => capnpref01_Words.l0 k b (acc ++ [t.1]) ((i + 1 : Nat) : Int)) (fun k => ?_) (Ev.bind (refGet_yes b hB i hb (by omega)) (ih (i + 1) (by omega) _ ?_))
    · simp only [capnpref01_Words.l0]
      rw [w64 (x := (b.length : Int) / 8) (by omega) (by omega), if_pos (by omega), w64 (by omega) (by omega), show (i : Int) + 1 = ((i + 1 : Nat) : Int) by omega]
      simp only [if_pos (show acc.length < 17592186044416 by omega)]
    · rw [h, List.range_succ, List.map_append]; rfl
theorem refWords_yes (b : List Int) (hB : IsB b) (hb : b.length ≤ 140737488351232) (h8 : b.length % 8 = 0) : Ev (fun k => capnpref01_Words.f k b) (wordsS b, true) := by
  refine Ev.congr (fun k => ?_) (refWords_l0 b hB hb (b.length / 8) 0 (by omega) [] rfl)
  unfold capnpref01_Words.f
  rw [if_pos (by omega)]; rfl
theorem refWords_no (b : List Int) (h8 : b.length % 8 ≠ 0) : Ev (fun k => capnpref01_Words.f k b) ([], false) := by
  refine Ev.congr (fun k => ?_) (Ev.now _)
  unfold capnpref01_Words.f
  rw [if_neg (by omega)]
theorem refBytes_l1 (x0 : List Int) (x4 r) : ∀ d j : Nat, j + d = 8 → ∀ (x3 : List Int) (w : Int), 0 ≤ w → w < 18446744073709551616 → x3.length + d < 140737488355328 → Ev (fun k => capnpref01_Bytes.l0 k x0 (x3 ++ bs d w) (wrap64 (x4 + 1))) r → Ev (fun k => capnpref01_Bytes.l1 k x0 x3 x4 w (j : Int)) r := by
  intro d
  induction d with
  | zero =>
    intro j hj x3 w h0 h1 hl h
    obtain rfl : j = 8 := by omega
    refine Ev.step (fun k => ?_) h
    simp only [capnpref01_Bytes.l1]
    rw [if_neg (by omega)]
    simp [bs]
  | succ d ih =>
    intro j hj x3 w h0 h1 hl h
    refine Ev.step (f := fun k => capnpref01_Bytes.l1 k x0 (x3 ++ [w % 256]) x4 (w / 256) ((j + 1 : Nat) : Int)) (fun k => ?_) (ih (j + 1) (by omega) _ _ (by omega) (by omega) (by simp; omega) ?_)
    · simp only [capnpref01_Bytes.l1]
      rw [if_pos (by omega), if_pos (by omega), w64 (by omega) (by omega), Int.tmod_eq_emod_of_nonneg h0, Int.tdiv_eq_ediv_of_nonneg h0, wu (by omega) (by omega), show w % 256 % 256 = w % 256 by omega, show (j : Int) + 1 = ((j + 1 : Nat) : Int) by omega]
    · simpa [bs] using h
theorem refBytes_l0 (x0 : List Int) (hW : IsW x0) (hx : x0.length * 8 < 140737488355328) : ∀ d i : Nat, i + d = x0.length → ∀ x3 : List Int, x3 = bytesS (x0.take i) → Ev (fun k => capnpref01_Bytes.l0 k x0 x3 (i : Int)) (bytesS x0) := by
  intro d
  induction d with
  | zero =>
    intro i hi x3 h
    refine Ev.step (f := fun _ => some x3) (fun k => ?_) ?_
    · simp only [capnpref01_Bytes.l0]; rw [if_neg (by omega)]
    · rw [h, List.take_of_length_le (by omega)]; exact Ev.now _
  | succ d ih =>
    intro i hi x3 h
    have hr := rd_W hW (i : Int)
    refine Ev.step (f := fun k => capnpref01_Bytes.l1 k x0 x3 (i : Int) (rd x0 (i : Int)) ((0 : Nat) : Int)) (fun k => ?_) (refBytes_l1 x0 _ _ 8 0 rfl _ _ hr.1 hr.2 ?_ ?_)
    · simp only [capnpref01_Bytes.l0]; rw [if_pos (by omega), if_pos (by omega)]; rfl
    · rw [h, bytesS_length, List.length_take]; omega
    · rw [w64 (by omega) (by omega), show (i : Int) + 1 = ((i + 1 : Nat) : Int) by omega]
      refine ih (i + 1) (by omega) _ ?_
      rw [take_rd (by omega), bytesS_append, h]; simp [bytesS]
theorem refBytes (l : List Int) (hW : IsW l) (hx : l.length * 8 < 140737488355328) : Ev (fun k => capnpref01_Bytes.f k l) (bytesS l) :=
  refBytes_l0 l hW hx l.length 0 (by omega) [] rfl
theorem refTagBytes_l0 (l : List Int) (hl : l.length = 8) : ∀ d i : Nat, i + d = 8 → ∀ x4 : List Int, x4 = nz (l.take i) → Ev (fun k => capnpref20_Bytes.l0 k l x4 (i : Int)) (nz l) := by
  intro d
  induction d with
  | zero =>
    intro i hi x4 h
    refine Ev.step (f := fun _ => some x4) (fun k => ?_) ?_
    · simp only [capnpref20_Bytes.l0]; rw [if_neg (by omega)]
    · rw [h, List.take_of_length_le (by omega)]; exact Ev.now _
  | succ d ih =>
    intro i hi x4 h
    have hx : x4.length ≤ 8 := by rw [h]; have := nz_length_le (l.take i); rw [List.length_take] at this; omega
    have ht : l.take (i + 1) = l.take i ++ [rd l (i : Int)] := take_rd (by omega)
    refine Ev.step (f := fun k => if rd l (i : Int) = 0 then capnpref20_Bytes.l0 k l x4 ((i + 1 : Nat) : Int) else capnpref20_Bytes.l0 k l (x4 ++ [rd l (i : Int)]) ((i + 1 : Nat) : Int)) (fun k => ?_) ?_
    · simp only [capnpref20_Bytes.l0]
      rw [if_pos (show (i : Int) < 8 by omega), if_pos (show 0 ≤ (i : Int) by omega), if_pos (show (i : Int) < (l.length : Int) by omega), wrap_succ i (by omega)]
      simp only [if_pos (show x4.length < 140737488355328 by omega)]
    · by_cases h0 : rd l (i : Int) = 0
      · refine Ev.congr (fun k => if_pos h0) (ih (i + 1) (by omega) _ ?_)
        rw [ht, nz_append, nz_cons, if_pos h0, nz_nil, List.append_nil, h]
      · refine Ev.congr (fun k => if_neg h0) (ih (i + 1) (by omega) _ ?_)
        rw [ht, nz_append, nz_cons, if_neg h0, nz_nil, h]
theorem refTagBytes (w : Int) (h0 : 0 ≤ w) (h1 : w < 18446744073709551616) : Ev (fun k => capnpref20_Bytes.f k w) (nzS w) := by
  unfold capnpref20_Bytes.f
  refine Ev.bind (refBytes [w] (IsW.cons h0 h1 IsW.nil) (by simp)) ?_
  have e : bytesS [w] = bs 8 w := by simp [bytesS]
  rw [e]
  exact refTagBytes_l0 _ (bs_length 8 w) 8 0 rfl [] rfl
theorem ref24Valid_l0 (ws : List Int) (hW : IsW ws) (hl : ws.length ≤ 1000000) : ∀ d i : Nat, i + d = ws.length → Ev (fun k => capnpref24_Valid.l0 k ws (i : Int)) (if i = 0 then Ps.runB ws else (ws.drop i).all denseS) := by
  intro d
  induction d with
  | zero =>
    intro i hi
    refine Ev.step (f := fun _ => some true) (fun k => ?_) ?_
    · simp only [capnpref24_Valid.l0]; rw [if_neg (by omega)]
    · have e : (if i = 0 then Ps.runB ws else (ws.drop i).all denseS) = true := by
        rw [List.drop_of_length_le (by omega)]
        split
        · have : ws = [] := List.length_eq_zero_iff.mp (by omega)
          rw [this]; rfl
        · rfl
      rw [e]; exact Ev.now _
  | succ d ih =>
    intro i hi
    have hlt : i < ws.length := by omega
    have hd : ws.drop i = rd ws (i : Int) :: ws.drop (i + 1) := by
      rw [List.drop_eq_getElem_cons hlt]; congr 1
      simp [rd, List.getD_eq_getElem?_getD, List.getElem?_eq_getElem hlt]
    have ih1 := ih (i + 1) (by omega)
    rw [if_neg (by omega)] at ih1
    have hx0 := rd_W hW (i : Int)
    have h8 := nzS_length_le (rd ws (i : Int))
    refine Ev.step (f := fun k => (capnpref20_Bytes.f k (rd ws (i : Int))).bind fun t270 => if (t270.length : Int) < 7 then some false else (if (i : Int) = 0 then (if (t270.length : Int) < 8 then some false else capnpref24_Valid.l0 k ws ((i + 1 : Nat) : Int)) else capnpref24_Valid.l0 k ws ((i + 1 : Nat) : Int))) (fun k => ?_) (Ev.bind (refTagBytes _ hx0.1 hx0.2) ?_)
    · simp only [capnpref24_Valid.l0]
      rw [if_pos (by omega), if_pos (by omega), wrap_succ i (by omega)]
    · by_cases hD : 7 ≤ (nzS (rd ws (i : Int))).length
      · have hD' : denseS (rd ws (i : Int)) = true := decide_eq_true hD
        refine Ev.congr (fun k => if_neg (by omega)) ?_
        by_cases h0 : i = 0
        · subst h0
          rw [if_pos rfl]
          rw [List.drop_zero] at hd
          refine Ev.congr (fun k => if_pos rfl) ?_
          by_cases hO : ofS (rd ws ((0 : Nat) : Int)) = 255
          · have h8' := ofS_full hO
            refine Ev.congr (fun k => if_neg (by omega)) ?_
            have e : Ps.runB ws = (ws.drop (0 + 1)).all denseS := by
              rw [hd]
              simp only [Ps.runB, List.all_cons, hD', hO, Bool.true_and, decide_true, Bool.and_true]
              rfl
            rw [e]; exact ih1
          · have h7 := ofS_lt8 hO
            have e : Ps.runB ws = false := by
              rw [hd]
              simp only [Ps.runB, decide_eq_false hO, Bool.and_false]
            rw [e]; exact Ev.congr (fun k => if_pos (by omega)) (Ev.now _)
        · rw [if_neg h0, hd, List.all_cons, hD', Bool.true_and]
          exact Ev.congr (fun k => if_neg (by omega)) ih1
      · have hD' : denseS (rd ws (i : Int)) = false := decide_eq_false hD
        have e : (if i = 0 then Ps.runB ws else (ws.drop i).all denseS) = false := by
          split
          · rename_i h0
            subst h0
            rw [List.drop_zero] at hd
            rw [hd]; simp only [Ps.runB, List.all_cons, hD', Bool.false_and]
          · rw [hd, List.all_cons, hD', Bool.false_and]
        rw [e]
        exact Ev.congr (fun k => if_pos (by omega)) (Ev.now _)
theorem ref24Valid (p : List Int) (z : Int) {r : List Int} (hB : IsB r) (hr : r.length ≤ 1000000) (hp : p.length ≤ 1000000) : Ev (fun k => capnpref24_Valid.f k p z r) (Ps.validB p z r) := by
  unfold capnpref24_Valid.f Ps.validB
  have no : ∀ l : List Int, Ev (fun k => capnpref24_Valid.j0 k l true) false := fun l => Ev.step (f := fun _ => some false) (fun k => by simp only [capnpref24_Valid.j0, if_true]) (Ev.now _)
  have F : ¬ (r.length % 8 = 0 ∧ r.length / 8 ≤ 255 ∧ p.length < 8 ∧ 0 ≤ z ∧ z ≤ 255 ∧ (z ≤ 0 ∨ r.length / 8 = 0)) → (decide (r.length % 8 = 0 ∧ r.length / 8 ≤ 255 ∧ p.length < 8 ∧ 0 ≤ z ∧ z ≤ 255 ∧ (z ≤ 0 ∨ r.length / 8 = 0)) && Ps.runB (wordsS r)) = false := fun h => by rw [decide_eq_false h, Bool.false_and]
  have G : (r.length % 8 = 0 ∧ r.length / 8 ≤ 255 ∧ p.length < 8 ∧ 0 ≤ z ∧ z ≤ 255 ∧ (z ≤ 0 ∨ r.length / 8 = 0)) → (decide (r.length % 8 = 0 ∧ r.length / 8 ≤ 255 ∧ p.length < 8 ∧ 0 ≤ z ∧ z ≤ 255 ∧ (z ≤ 0 ∨ r.length / 8 = 0)) && Ps.runB (wordsS r)) = Ps.runB (wordsS r) := fun h => by rw [decide_eq_true h, Bool.true_and]
  have yes : Ev (fun k => capnpref24_Valid.j0 k (wordsS r) false) (Ps.runB (wordsS r)) := by
    refine Ev.step (f := fun k => capnpref24_Valid.l0 k (wordsS r) 0) (fun k => by simp only [capnpref24_Valid.j0]; rw [if_neg (by decide)]) ?_
    have := ref24Valid_l0 (wordsS r) (wordsS_W hB) (by rw [wordsS_length]; omega) (wordsS r).length 0 (by omega)
    rw [if_pos rfl] at this
    exact this
  have hn := wordsS_length r
  by_cases h8 : r.length % 8 = 0
  · refine Ev.bind (refWords_yes r hB (by omega) h8) ?_
    by_cases c1 : (p.length : Int) > 7
    · rw [F (by omega)]; exact Ev.congr (fun k => if_pos c1) (no _)
    · refine Ev.congr (fun k => if_neg c1) ?_
      by_cases c2 : z < 0
      · rw [F (by omega)]; exact Ev.congr (fun k => if_pos c2) (no _)
      · refine Ev.congr (fun k => if_neg c2) ?_
        by_cases c3 : z > 255
        · rw [F (by omega)]; exact Ev.congr (fun k => if_pos c3) (no _)
        · refine Ev.congr (fun k => if_neg c3) (Ev.congr (fun k => if_pos rfl) ?_)
          by_cases c4 : ((wordsS r).length : Int) > 255
          · rw [F (by omega)]; exact Ev.congr (fun k => if_pos c4) (no _)
          · refine Ev.congr (fun k => if_neg c4) ?_
            by_cases c5 : z > 0
            · refine Ev.congr (fun k => if_pos c5) ?_
              by_cases c6 : ((wordsS r).length : Int) > 0
              · rw [F (by omega), decide_eq_true (p := ((wordsS r).length : Int) > 0) c6]; exact no _
              · rw [G (by omega), decide_eq_false (p := ((wordsS r).length : Int) > 0) c6]; exact yes
            · rw [G (by omega)]; exact Ev.congr (fun k => if_neg c5) yes
  · refine Ev.bind (refWords_no r h8) ?_
    rw [F (by omega)]
    by_cases c1 : (p.length : Int) > 7
    · exact Ev.congr (fun k => if_pos c1) (no _)
    · refine Ev.congr (fun k => if_neg c1) ?_
      by_cases c2 : z < 0
      · exact Ev.congr (fun k => if_pos c2) (no _)
      · refine Ev.congr (fun k => if_neg c2) ?_
        by_cases c3 : z > 255
        · exact Ev.congr (fun k => if_pos c3) (no _)
        · exact Ev.congr (fun k => if_neg c3) (Ev.congr (fun k => if_neg (by simp)) (no _))
theorem refOf_l0 (l : List Int) (hl : l.length = 8) : ∀ d i : Nat, i + d = 8 → ∀ x4 x5 : Int, x4 = tagL (l.take i) → x5 = ((2 ^ i : Nat) : Int) → Ev (fun k => capnpref20_Of.l0 k l x4 x5 (i : Int)) (tagL l) := by
  intro d
  induction d with
  | zero =>
    intro i hi x4 x5 h h5
    have h1 := tagL_nonneg l
    have h2 := tagL_lt l
    rw [hl] at h2
    have e : x4 % 256 = tagL l := by rw [h, List.take_of_length_le (by omega)]; exact Int.emod_eq_of_lt h1 h2
    refine Ev.step (f := fun _ => some (x4 % 256)) (fun k => ?_) ?_
    · simp only [capnpref20_Of.l0]; rw [if_neg (by omega)]
    · rw [e]; exact Ev.now _
  | succ d ih =>
    intro i hi x4 x5 h h5
    have ht : l.take (i + 1) = l.take i ++ [rd l (i : Int)] := take_rd (by omega)
    have hlen : (l.take i).length = i := by rw [List.length_take]; omega
    have h1 := tagL_nonneg (l.take i)
    have h2 := tagL_lt (l.take i)
    rw [hlen] at h2
    have h4 : (2 : Nat) ^ (i + 1) ≤ 2 ^ 8 := Nat.pow_le_pow_right (by decide) (by omega)
    rw [Nat.pow_succ] at h4
    rw [← h] at h1 h2
    have h2' : x4 < x5 := by rw [h5, Int.natCast_pow]; exact h2
    have hx5 : 0 ≤ x5 ∧ x5 ≤ 128 := by rw [h5]; exact ⟨Int.natCast_nonneg _, by omega⟩
    have e5 : x5 * 2 = ((2 ^ (i + 1) : Nat) : Int) := by rw [h5, Nat.pow_succ]; omega
    clear h2 h4
    refine Ev.step (f := fun k => if rd l (i : Int) = 0 then capnpref20_Of.l0 k l x4 (x5 * 2) ((i + 1 : Nat) : Int) else capnpref20_Of.l0 k l (x4 + x5) (x5 * 2) ((i + 1 : Nat) : Int)) (fun k => ?_) ?_
    · clear e5 h5 h
      simp only [capnpref20_Of.l0]
      rw [if_pos (show (i : Int) < 8 by omega), if_pos (show 0 ≤ (i : Int) by omega), if_pos (show (i : Int) < (l.length : Int) by omega), wrap_succ i (by omega), w64 (x := x5 * 2) (by omega) (by omega), w64 (x := x4 + x5) (by omega) (by omega)]
    · by_cases h0 : rd l (i : Int) = 0
      · refine Ev.congr (fun k => if_pos h0) (ih (i + 1) (by omega) _ _ ?_ e5)
        rw [ht, tagL_append, h0, h]; simp [tagL]
      · refine Ev.congr (fun k => if_neg h0) (ih (i + 1) (by omega) _ _ ?_ e5)
        rw [ht, tagL_append, hlen, h, h5, Int.natCast_pow]; simp [tagL, h0]
theorem refOf (w : Int) (h0 : 0 ≤ w) (h1 : w < 18446744073709551616) : Ev (fun k => capnpref20_Of.f k w) (ofS w) := by
  unfold capnpref20_Of.f
  refine Ev.bind (refBytes [w] (IsW.cons h0 h1 IsW.nil) (by simp)) ?_
  have e : bytesS [w] = bs 8 w := by simp [bytesS]
  rw [e]
  exact refOf_l0 _ (bs_length 8 w) 8 0 rfl 0 1 rfl rfl
theorem refDense (w : Int) (h0 : 0 ≤ w) (h1 : w < 18446744073709551616) : Ev (fun k => capnpref20_Dense.f k w) (decide (7 ≤ (nzS w).length)) := by
  unfold capnpref20_Dense.f
  refine Ev.bind (refTagBytes w h0 h1) ?_
  have e : decide (((nzS w).length : Int) ≥ 7) = decide (7 ≤ (nzS w).length) := by simp only [decide_eq_decide]; omega
  rw [e]; exact Ev.now _
theorem ref21_fin (x0 : List Int) (hW : IsW x0) (hx : x0.length ≤ 1000000000) (i n : Nat) (x3 r : List Int) (t : Int) (hin : i + n ≤ x0.length) (hn : n ≤ 255) (h3 : x3.length ≤ 100000000000000) (hr : t = 255 → Ev (fun k => capnpref21_Words.l0 k x0 (x3 ++ [(n : Int)] ++ bytesS ((x0.drop i).take n)) ((i + n : Nat) : Int)) r) (hr2 : t ≠ 255 → Ev (fun k => capnpref21_Words.l0 k x0 (x3 ++ [(n : Int)]) ((i + n : Nat) : Int)) r) (hstop : n < 255 → i + n < x0.length → (t = 0 → isZ (rd x0 ((i + n : Nat) : Int)) = false) ∧ (t = 255 → denseS (rd x0 ((i + n : Nat) : Int)) = false)) : Ev (fun k => capnpref21_Words.l1 k x0 x3 (i : Int) t (n : Int)) r := by
  have e1 : wrap64 ((i : Int) + (n : Int)) = ((i + n : Nat) : Int) := by rw [w64 (by omega) (by omega)]; omega
  have e2 : ((n : Int)) % 256 = (n : Int) := by omega
  have e3 : (x0.take ((i + n : Nat) : Int).toNat).drop ((i : Int)).toNat = (x0.drop i).take n := by
    rw [Int.toNat_natCast, Int.toNat_natCast, List.drop_take]; congr 1; omega
  have hb := bytesS_length ((x0.drop i).take n)
  rw [List.length_take, List.length_drop, Nat.min_eq_left (by omega)] at hb
  have hT : IsW ((x0.drop i).take n) := (hW.drop i).take n
  have fin255 : t = 255 → Ev (fun k => if x3.length < 140737488355328 then ((some (x3 ++ [(n : Int)] : List Int)).bind fun y => (if 0 ≤ (i : Int) then (if (i : Int) ≤ ((i + n : Nat) : Int) then (if ((i + n : Nat) : Int) ≤ (x0.length : Int) then ((capnpref01_Bytes.f k ((x0.drop i).take n)).bind fun q => (if y.length + q.length < 140737488355328 then (capnpref21_Words.l0 k x0 (y ++ q) ((i + n : Nat) : Int)) else (none))) else (none)) else (none)) else (none))) else (none)) r := by
    intro ht
    refine Ev.congr (fun k => if_pos (by omega)) ?_
    simp only [Option.bind_some]
    refine Ev.congr (fun k => if_pos (by omega)) (Ev.congr (fun k => if_pos (by omega)) (Ev.congr (fun k => if_pos (by omega)) (Ev.bind (refBytes _ hT (by rw [List.length_take, List.length_drop]; omega)) (Ev.congr (fun k => if_pos (by first | (simp; done) | (simp; omega))) (hr ht)))))
  have finN : t ≠ 255 → Ev (fun k => if x3.length < 140737488355328 then capnpref21_Words.l0 k x0 (x3 ++ [(n : Int)]) ((i + n : Nat) : Int) else none) r := fun ht => Ev.congr (fun k => if_pos (by omega)) (hr2 ht)
  have both : Ev (fun k => if x3.length < 140737488355328 then ((some (x3 ++ [(n : Int)] : List Int)).bind fun y => (if t = 255 then (if 0 ≤ (i : Int) then (if (i : Int) ≤ ((i + n : Nat) : Int) then (if ((i + n : Nat) : Int) ≤ (x0.length : Int) then ((capnpref01_Bytes.f k ((x0.drop i).take n)).bind fun q => (if y.length + q.length < 140737488355328 then (capnpref21_Words.l0 k x0 (y ++ q) ((i + n : Nat) : Int)) else (none))) else (none)) else (none)) else (none)) else (capnpref21_Words.l0 k x0 y ((i + n : Nat) : Int)))) else (none)) r := by
    by_cases ht : t = 255
    · have := fin255 ht
      simp only [if_pos ht]; exact this
    · have := finN ht
      simp only [if_neg ht, Option.bind_some]; exact this
  refine Ev.step (fun k => by simp only [capnpref21_Words.l1, e1, e2, e3]; rfl) ?_
  by_cases hlt : i + n < x0.length
  · refine Ev.congr (fun k => if_pos (by omega)) ?_
    by_cases h255 : n < 255
    · obtain ⟨s0, s1⟩ := hstop h255 hlt
      have hx0 := rd_W hW ((i + n : Nat) : Int)
      refine Ev.congr (fun k => if_pos (by omega)) ?_
      by_cases t0 : t = 0
      · have hz := s0 t0
        have hne : ¬ rd x0 ((i + n : Nat) : Int) = 0 := by simpa [isZ] using hz
        have t255 : ¬ t = 255 := by omega
        refine Ev.congr (fun k => if_pos t0) (Ev.congr (fun k => if_pos (by omega)) (Ev.congr (fun k => if_neg hne) (Ev.congr (fun k => if_neg t255) (finN t255))))
      · refine Ev.congr (fun k => if_neg t0) ?_
        by_cases t255 : t = 255
        · have hd := s1 t255
          refine Ev.congr (fun k => if_pos t255) (Ev.congr (fun k => if_pos (by omega)) (Ev.bind (refDense _ hx0.1 hx0.2) ?_))
          have hd' : decide (7 ≤ (nzS (rd x0 ((i + n : Nat) : Int))).length) = false := hd
          rw [hd']
          exact Ev.congr (fun k => if_neg (by simp)) (fin255 t255)
        · exact Ev.congr (fun k => if_neg t255) (finN t255)
    · exact Ev.congr (fun k => if_neg (by omega)) both
  · exact Ev.congr (fun k => if_neg (by omega)) both
theorem ref21_go (x0 : List Int) (hW : IsW x0) (hx : x0.length ≤ 1000000000) (i : Nat) (x3 : List Int) (t : Int) (p : Int → Bool) (r : List Int) (hp : (t = 0 ∧ p = isZ) ∨ (t = 255 ∧ p = denseS)) (hfin : Ev (fun k => capnpref21_Words.l1 k x0 x3 (i : Int) t ((runP p 255 (x0.drop i) : Nat) : Int)) r) : ∀ d n : Nat, n + d = runP p 255 (x0.drop i) → Ev (fun k => capnpref21_Words.l1 k x0 x3 (i : Int) t (n : Int)) r := by
  intro d
  have hle := runP_le p 255 (x0.drop i)
  have hlen := runP_length p 255 (x0.drop i)
  rw [List.length_drop] at hlen
  induction d with
  | zero => intro n hn; rw [show n = runP p 255 (x0.drop i) by omega]; exact hfin
  | succ d ih =>
    intro n hn
    have e1 : wrap64 ((i : Int) + (n : Int)) = ((i + n : Nat) : Int) := by rw [w64 (by omega) (by omega)]; omega
    have hall := runP_all p 255 (x0.drop i)
    have hx0 := rd_W hW ((i + n : Nat) : Int)
    have hpn : p (rd x0 ((i + n : Nat) : Int)) = true := by
      apply hall
      rw [rd_lt (by omega)]
      have hlt : n < ((x0.drop i).take (runP p 255 (x0.drop i))).length := by rw [List.length_take, List.length_drop]; omega
      have : ((x0.drop i).take (runP p 255 (x0.drop i)))[n] = x0[i + n] := by simp
      rw [← this]; exact List.getElem_mem hlt
    refine Ev.step (fun k => by simp only [capnpref21_Words.l1, e1, wrap_succ n (show n ≤ 140737488355328 by omega)]; rfl) ?_
    refine Ev.congr (fun k => if_pos (by omega)) (Ev.congr (fun k => if_pos (by omega)) ?_)
    rcases hp with ⟨ht, hp⟩ | ⟨ht, hp⟩
    · have hz : rd x0 ((i + n : Nat) : Int) = 0 := by rw [hp] at hpn; simpa [isZ] using hpn
      exact Ev.congr (fun k => if_pos ht) (Ev.congr (fun k => if_pos (by omega)) (Ev.congr (fun k => if_pos hz) (ih (n + 1) (by omega))))
    · have hd : decide (7 ≤ (nzS (rd x0 ((i + n : Nat) : Int))).length) = true := by rw [hp] at hpn; exact hpn
      refine Ev.congr (fun k => if_neg (by omega)) (Ev.congr (fun k => if_pos ht) (Ev.congr (fun k => if_pos (by omega)) (Ev.bind (refDense _ hx0.1 hx0.2) ?_)))
      rw [hd]
      exact Ev.congr (fun k => if_pos (by simp)) (ih (n + 1) (by omega))
theorem ref21_l0 (x0 : List Int) (hW : IsW x0) (hx : x0.length ≤ 1000000000) : ∀ (d i : Nat), i + d = x0.length → ∀ x3 : List Int, x3.length + 10 * d ≤ 100000000000 → Ev (fun k => capnpref21_Words.l0 k x0 x3 (i : Int)) (x3 ++ packS (x0.drop i)) := by
  intro d
  induction d using Nat.strongRecOn with
  | _ d ih =>
  intro i hi x3 h3
  by_cases hlt : i < x0.length
  · have hdr := drop_rd hlt
    have hw := rd_W hW (i : Int)
    have hz := nzS_length_le (rd x0 (i : Int))
    rw [hdr, packS_cons]
    have hL : IsW (x0.drop (i + 1)) := hW.drop _
    have hlen : (x0.drop (i + 1)).length = x0.length - (i + 1) := List.length_drop
    generalize hwe : rd x0 (i : Int) = w at *
    refine Ev.step (fun k => by simp only [capnpref21_Words.l0, hwe]; rfl) ?_
    refine Ev.congr (fun k => if_pos (by omega)) (Ev.congr (fun k => if_pos (by omega)) (Ev.bind (refOf w hw.1 hw.2) (Ev.congr (fun k => if_pos (by omega)) ?_)))
    simp only [Option.bind_some]
    refine Ev.bind (refTagBytes w hw.1 hw.2) (Ev.congr (fun k => if_pos (by first | (simp; done) | (simp; omega))) ?_)
    rw [wrap_succ i (by omega)]
    by_cases h0 : ofS w = 0
    · rw [if_pos h0]
      have hr := runP_length isZ 255 (x0.drop (i + 1))
      have hr2 := runP_le isZ 255 (x0.drop (i + 1))
      have hst := runP_stop isZ 255 (x0.drop (i + 1))
      refine Ev.congr (fun k => if_pos h0) (Ev.step (fun k => by simp only [capnpref21_Words.j1]; rfl) (Ev.congr (fun k => if_neg (by simp)) ?_))
      refine ref21_go x0 hW hx (i + 1) _ (ofS w) isZ _ (Or.inl ⟨h0, rfl⟩) ?_ (runP isZ 255 (x0.drop (i + 1))) 0 (by omega)
      refine ref21_fin x0 hW hx (i + 1) (runP isZ 255 (x0.drop (i + 1))) _ _ (ofS w) (by omega) hr2 (by simp only [List.length_append, List.length_cons, List.length_nil]; omega) (fun h => absurd h (by omega)) (fun _ => ?_) (fun h1 h2 => ⟨fun _ => ?_, fun h => absurd h (by omega)⟩)
      · have := ih (x0.length - (i + 1 + runP isZ 255 (x0.drop (i + 1)))) (by omega) (i + 1 + runP isZ 255 (x0.drop (i + 1))) (by omega) (x3 ++ [ofS w] ++ nzS w ++ [((runP isZ 255 (x0.drop (i + 1)) : Nat) : Int)]) (by simp only [List.length_append, List.length_cons, List.length_nil]; omega)
        rw [← List.drop_drop] at this
        simpa [List.append_assoc] using this
      · have := hst h1 (by omega)
        rwa [rd_drop] at this
    · rw [if_neg h0]
      refine Ev.congr (fun k => if_neg h0) ?_
      by_cases h1 : ofS w = 255
      · rw [if_pos h1]
        have hr := runP_length denseS 255 (x0.drop (i + 1))
        have hr2 := runP_le denseS 255 (x0.drop (i + 1))
        have hst := runP_stop denseS 255 (x0.drop (i + 1))
        have hb := bytesS_length ((x0.drop (i + 1)).take (runP denseS 255 (x0.drop (i + 1))))
        rw [List.length_take, Nat.min_eq_left hr] at hb
        rw [show (ofS w != 255) = false by simp [h1]]
        refine Ev.step (fun k => by simp only [capnpref21_Words.j1]; rfl) (Ev.congr (fun k => if_neg (by simp)) ?_)
        refine ref21_go x0 hW hx (i + 1) _ (ofS w) denseS _ (Or.inr ⟨h1, rfl⟩) ?_ (runP denseS 255 (x0.drop (i + 1))) 0 (by omega)
        refine ref21_fin x0 hW hx (i + 1) (runP denseS 255 (x0.drop (i + 1))) _ _ (ofS w) (by omega) hr2 (by simp only [List.length_append, List.length_cons, List.length_nil]; omega) (fun _ => ?_) (fun h => absurd h1 h) (fun h2 h3 => ⟨fun h => absurd h h0, fun _ => ?_⟩)
        · have := ih (x0.length - (i + 1 + runP denseS 255 (x0.drop (i + 1)))) (by omega) (i + 1 + runP denseS 255 (x0.drop (i + 1))) (by omega) (x3 ++ [ofS w] ++ nzS w ++ [((runP denseS 255 (x0.drop (i + 1)) : Nat) : Int)] ++ bytesS ((x0.drop (i + 1)).take (runP denseS 255 (x0.drop (i + 1))))) (by simp only [List.length_append, List.length_cons, List.length_nil, hb]; omega)
          rw [← List.drop_drop] at this
          simpa [List.append_assoc] using this
        · have := hst h2 (by omega)
          rwa [rd_drop] at this
      · rw [if_neg h1]
        have h7 := ofS_lt8 h1
        rw [show (ofS w != 255) = true by simp [h1]]
        refine Ev.step (fun k => by simp only [capnpref21_Words.j1]; rfl) (Ev.congr (fun k => if_pos (by simp)) ?_)
        have := ih (x0.length - (i + 1)) (by omega) (i + 1) (by omega) (x3 ++ [ofS w] ++ nzS w) (by simp only [List.length_append, List.length_cons, List.length_nil]; omega)
        simpa [List.append_assoc] using this
  · refine Ev.step (f := fun _ => some x3) (fun k => ?_) ?_
    · simp only [capnpref21_Words.l0]; rw [if_neg (by omega)]
    · rw [List.drop_of_length_le (by omega), packS_nil, List.append_nil]; exact Ev.now _
theorem ref21Words (l : List Int) (hW : IsW l) (hl : l.length ≤ 1000000000) : Ev (fun k => capnpref21_Words.f k l) (packS l) := by
  have := ref21_l0 l hW hl l.length 0 (by omega) [] (by first | (simp; done) | (simp; omega))
  rwa [List.nil_append, List.drop_zero] at this
theorem refBegin_l1 (ws : List Int) (hW : IsW ws) (hl : ws.length ≤ 1000000000) (i : Nat) (hi : i < ws.length) (hl0 : ∀ j : Nat, i < j → j ≤ ws.length → Ev (fun k => capnpref24_Begin.l0 k ws (j : Int)) ((j + Ps.begS (ws.drop j) : Nat) : Int)) :
    ∀ d n : Nat, 1 ≤ n → n + d = Ps.grpN (rd ws (i : Int)) (ws.drop (i + 1)) → Ev (fun k => capnpref24_Begin.l1 k ws (i : Int) (n : Int) (ofS (rd ws (i : Int)))) ((i + Ps.begS (ws.drop i) : Nat) : Int) := by
  have hdr : ws.drop i = rd ws (i : Int) :: ws.drop (i + 1) := by
    rw [List.drop_eq_getElem_cons hi]; congr 1
    simp [rd, List.getD_eq_getElem?_getD, List.getElem?_eq_getElem hi]
  have hll : (ws.drop (i + 1)).length = ws.length - (i + 1) := List.length_drop
  have hrd : ∀ n : Nat, 1 ≤ n → rd (ws.drop (i + 1)) ((n - 1 : Nat) : Int) = rd ws ((i + n : Nat) : Int) := fun n h1 => by
    simp only [rd, List.getD_eq_getElem?_getD, Int.toNat_natCast, List.getElem?_drop]
    rw [show i + 1 + (n - 1) = i + n by omega]
  have hbeg := Ps.begS_cons (rd ws (i : Int)) (ws.drop (i + 1))
  rw [← hdr] at hbeg
  have hnext : ∀ n : Nat, 1 ≤ n → (ws.drop (i + 1)).drop (n - 1) = ws.drop (i + n) := fun n h1 => by rw [List.drop_drop, show i + 1 + (n - 1) = i + n by omega]
  have ew : ∀ n : Nat, n ≤ 1000000 → wrap64 ((i : Int) + (n : Int)) = ((i + n : Nat) : Int) := fun n h => by rw [w64 (by omega) (by omega)]; omega
  have run : ∀ P : Int → Bool, (∀ d n : Nat, 1 ≤ n → n + (d + 1) = 1 + runP P 255 (ws.drop (i + 1)) → i + n < ws.length ∧ n < 256 ∧ P (rd ws ((i + n : Nat) : Int)) = true) ∧ (∀ n : Nat, n = 1 + runP P 255 (ws.drop (i + 1)) → n ≤ 256 ∧ i + n ≤ ws.length ∧ (n < 256 → i + n < ws.length → P (rd ws ((i + n : Nat) : Int)) = false)) := by
    intro P
    have h1 := runP_le P 255 (ws.drop (i + 1))
    have h2 := runP_length P 255 (ws.drop (i + 1))
    have hall := runP_all P 255 (ws.drop (i + 1))
    have hst := runP_stop P 255 (ws.drop (i + 1))
    obtain ⟨q, hq⟩ : ∃ q, q = runP P 255 (ws.drop (i + 1)) := ⟨_, rfl⟩
    rw [← hq] at h1 h2 hall hst ⊢
    refine ⟨fun d n hn hd => ⟨by omega, by omega, ?_⟩, fun n hn => ⟨by omega, by omega, fun a b => ?_⟩⟩
    · apply hall
      rw [← hrd n hn, rd_lt (by omega)]
      have hlt : n - 1 < ((ws.drop (i + 1)).take q).length := by rw [List.length_take]; omega
      have : ((ws.drop (i + 1)).take q)[n - 1] = (ws.drop (i + 1))[n - 1] := by simp
      rw [← this]; exact List.getElem_mem hlt
    · have := hst (by omega) (by omega)
      rw [← hrd n (by omega), show n - 1 = q by omega]
      exact this
  obtain ⟨w, hw⟩ : ∃ w, w = rd ws (i : Int) := ⟨_, rfl⟩
  rw [← hw] at hbeg ⊢
  obtain ⟨t, ht⟩ : ∃ t, t = ofS w := ⟨_, rfl⟩
  rw [← ht] at hbeg ⊢
  intro d
  by_cases t0 : t = 0
  · have hg : Ps.grpN w (ws.drop (i + 1)) = 1 + runP isZ 255 (ws.drop (i + 1)) := by unfold Ps.grpN; rw [← ht, if_pos t0]
    rw [hg] at hbeg ⊢
    obtain ⟨r1, r2⟩ := run isZ
    induction d with
    | zero =>
      intro n hn hd
      obtain ⟨a1, a2, a3⟩ := r2 n (by omega)
      rw [← hd, Nat.add_zero, hnext n hn, hll] at hbeg
      by_cases c1 : i + n < ws.length
      · rw [if_neg (by omega)] at hbeg
        have h0 := hl0 (i + n) (by omega) (by omega)
        rw [Nat.add_assoc, ← hbeg] at h0
        refine Ev.step (fun k => ?_) h0
        simp only [capnpref24_Begin.l1, ew n (by omega)]
        rw [if_pos t0, if_pos (by omega)]
        by_cases c2 : n < 256
        · have hz : rd ws ((i + n : Nat) : Int) ≠ 0 := by have := a3 c2 c1; simpa [isZ] using this
          rw [if_pos (by omega), if_pos (by omega), if_neg hz, if_neg (by omega), if_neg (by omega)]
        · rw [if_neg (by omega)]
          simp only [ite_self]
      · by_cases c2 : n < 256
        · rw [if_pos ⟨by omega, c2, Or.inl t0⟩] at hbeg
          refine Ev.step (f := fun _ => some (i : Int)) (fun k => ?_) (by rw [hbeg]; exact Ev.now _)
          simp only [capnpref24_Begin.l1, ew n (by omega)]
          rw [if_pos t0, if_neg (by omega), if_pos (by omega), if_pos (by omega)]
        · rw [if_neg (by omega)] at hbeg
          have h0 := hl0 (i + n) (by omega) (by omega)
          rw [Nat.add_assoc, ← hbeg] at h0
          refine Ev.step (fun k => ?_) h0
          simp only [capnpref24_Begin.l1, ew n (by omega)]
          rw [if_pos t0, if_neg (by omega), if_pos (by omega), if_neg (by omega)]
    | succ d ih =>
      intro n hn hd
      obtain ⟨a1, a2, a3⟩ := r1 d n hn hd
      have hz : rd ws ((i + n : Nat) : Int) = 0 := by simpa [isZ] using a3
      refine Ev.step (fun k => ?_) (ih (n + 1) (by omega) (by omega))
      simp only [capnpref24_Begin.l1, ew n (by omega)]
      rw [if_pos t0, if_pos (by omega), if_pos (by omega), if_pos (by omega), if_pos hz, wrap_succ n (by omega)]
  · by_cases t1 : t = 255
    · have hg : Ps.grpN w (ws.drop (i + 1)) = 1 + runP denseS 255 (ws.drop (i + 1)) := by unfold Ps.grpN; rw [← ht, if_neg t0, if_pos t1]
      rw [hg] at hbeg ⊢
      obtain ⟨r1, r2⟩ := run denseS
      induction d with
      | zero =>
        intro n hn hd
        obtain ⟨a1, a2, a3⟩ := r2 n (by omega)
        rw [← hd, Nat.add_zero, hnext n hn, hll] at hbeg
        by_cases c1 : i + n < ws.length
        · rw [if_neg (by omega)] at hbeg
          have h0 := hl0 (i + n) (by omega) (by omega)
          rw [Nat.add_assoc, ← hbeg] at h0
          by_cases c2 : n < 256
          · have hx0 := rd_W hW ((i + n : Nat) : Int)
            have hD : decide (7 ≤ (nzS (rd ws ((i + n : Nat) : Int))).length) = false := a3 c2 c1
            refine Ev.step (f := fun k => (capnpref20_Dense.f k (rd ws ((i + n : Nat) : Int))).bind fun t351 => if t351 = true then capnpref24_Begin.l1 k ws (i : Int) (wrap64 ((n : Int) + 1)) t else capnpref24_Begin.l0 k ws ((i + n : Nat) : Int)) (fun k => ?_) (Ev.bind (refDense _ hx0.1 hx0.2) ?_)
            · simp only [capnpref24_Begin.l1, ew n (by omega)]
              rw [if_neg t0, if_pos t1, if_pos (by omega), if_pos (by omega), if_pos (by omega), if_neg (show ¬ ((i + n : Nat) : Int) = (ws.length : Int) by omega)]
            · rw [hD]; exact Ev.congr (fun k => if_neg (by simp)) h0
          · refine Ev.step (fun k => ?_) h0
            simp only [capnpref24_Begin.l1, ew n (by omega)]
            rw [if_neg t0, if_pos t1, if_pos (by omega), if_neg (by omega)]
            simp only [ite_self]
        · by_cases c2 : n < 256
          · rw [if_pos ⟨by omega, c2, Or.inr t1⟩] at hbeg
            refine Ev.step (f := fun _ => some (i : Int)) (fun k => ?_) (by rw [hbeg]; exact Ev.now _)
            simp only [capnpref24_Begin.l1, ew n (by omega)]
            rw [if_neg t0, if_pos t1, if_neg (by omega), if_pos (by omega), if_pos (by omega)]
          · rw [if_neg (by omega)] at hbeg
            have h0 := hl0 (i + n) (by omega) (by omega)
            rw [Nat.add_assoc, ← hbeg] at h0
            refine Ev.step (fun k => ?_) h0
            simp only [capnpref24_Begin.l1, ew n (by omega)]
            rw [if_neg t0, if_pos t1, if_neg (by omega), if_pos (by omega), if_neg (by omega)]
      | succ d ih =>
        intro n hn hd
        obtain ⟨a1, a2, a3⟩ := r1 d n hn hd
        have hx0 := rd_W hW ((i + n : Nat) : Int)
        have hD : decide (7 ≤ (nzS (rd ws ((i + n : Nat) : Int))).length) = true := a3
        refine Ev.step (f := fun k => (capnpref20_Dense.f k (rd ws ((i + n : Nat) : Int))).bind fun t351 => if t351 = true then capnpref24_Begin.l1 k ws (i : Int) (wrap64 ((n : Int) + 1)) t else capnpref24_Begin.l0 k ws ((i + n : Nat) : Int)) (fun k => ?_) (Ev.bind (refDense _ hx0.1 hx0.2) ?_)
        · simp only [capnpref24_Begin.l1, ew n (by omega)]
          rw [if_neg t0, if_pos t1, if_pos (by omega), if_pos (by omega), if_pos (by omega), if_neg (show ¬ ((i + n : Nat) : Int) = (ws.length : Int) by omega)]
        · rw [hD, wrap_succ n (by omega)]; exact Ev.congr (fun k => if_pos rfl) (ih (n + 1) (by omega) (by omega))
    · have hg : Ps.grpN w (ws.drop (i + 1)) = 1 := by unfold Ps.grpN; rw [← ht, if_neg t0, if_neg t1]
      rw [hg] at hbeg ⊢
      intro n hn hd
      have hn1 : n = 1 := by omega
      subst hn1
      rw [if_neg (by rintro ⟨_, _, e | e⟩ <;> omega), hnext 1 (by omega)] at hbeg
      have h0 := hl0 (i + 1) (by omega) (by omega)
      rw [Nat.add_assoc, ← hbeg] at h0
      refine Ev.step (fun k => ?_) h0
      simp only [capnpref24_Begin.l1, ew 1 (by omega)]
      rw [if_neg t0, if_neg t1]
      simp only [ite_self]
theorem refBegin_l0 (ws : List Int) (hW : IsW ws) (hl : ws.length ≤ 1000000000) : ∀ (d i : Nat), i + d = ws.length → Ev (fun k => capnpref24_Begin.l0 k ws (i : Int)) ((i + Ps.begS (ws.drop i) : Nat) : Int) := by
  intro d
  induction d using Nat.strongRecOn with
  | _ d ih =>
  intro i hi
  by_cases hlt : i < ws.length
  · have hx0 := rd_W hW (i : Int)
    refine Ev.step (f := fun k => (capnpref20_Of.f k (rd ws (i : Int))).bind fun t346 => capnpref24_Begin.l1 k ws (i : Int) 1 t346) (fun k => ?_) (Ev.bind (refOf _ hx0.1 hx0.2) ?_)
    · simp only [capnpref24_Begin.l0]; rw [if_pos (by omega), if_pos (by omega)]
    · have hg : 1 ≤ Ps.grpN (rd ws (i : Int)) (ws.drop (i + 1)) := by
        unfold Ps.grpN; split
        · omega
        · split <;> omega
      exact refBegin_l1 ws hW hl i hlt (fun j h1 h2 => ih (ws.length - j) (by omega) j (by omega)) (Ps.grpN (rd ws (i : Int)) (ws.drop (i + 1)) - 1) 1 (by omega) (by omega)
  · have e : ws.drop i = [] := List.drop_of_length_le (by omega)
    rw [e, Ps.begS_nil, Nat.add_zero]
    refine Ev.step (f := fun _ => some (i : Int)) (fun k => ?_) (Ev.now _)
    simp only [capnpref24_Begin.l0]; rw [if_neg (by omega)]
theorem refBegin (ws : List Int) (hW : IsW ws) (hl : ws.length ≤ 1000000000) : Ev (fun k => capnpref24_Begin.f k ws) ((Ps.begS ws : Nat) : Int) := by
  have := refBegin_l0 ws hW hl ws.length 0 (by omega)
  rw [Nat.zero_add, List.drop_zero] at this
  exact this
theorem ref24After {l ws p : List Int} (he : l = bytesS ws ++ p) (hW : IsW ws) (hp : p.length < 8) (hpB : IsB p) (hl : ws.length ≤ 1000000) :
    Ev (fun k => capnpref24_After.f k l) (p, ((Ps.runW ws (0, [], [])).1 : Int), bytesS (Ps.runW ws (0, [], [])).2.1, (Ps.runW ws (0, [], [])).2.2) := by
  have hbl := bytesS_length ws
  have hll : l.length = 8 * ws.length + p.length := by rw [he, List.length_append, hbl]
  have hn : wrap64 ((l.length : Int) - ((l.length : Int) % 8)) = ((8 * ws.length : Nat) : Int) := by rw [w64 (by omega) (by omega)]; omega
  have ht : l.take (8 * ws.length) = bytesS ws := by rw [he, List.take_append_of_le_length (by omega), List.take_of_length_le (by omega)]
  have hd : l.drop (8 * ws.length) = p := by rw [he, List.drop_append_of_le_length (by omega), List.drop_of_length_le (by omega), List.nil_append]
  have hwb := wordsS_bytesS ws hW
  obtain ⟨hI, _⟩ := Ps.run_ok ws 0 [] [] (Ps.Inv.nil _) hW
  obtain ⟨D, d1, d2, d3⟩ := Ps.run_beg ws 0 [] [] (Ps.Inv.nil _) hW
  have h0 : Ps.stL 0 [] ++ ws = ws := rfl
  rw [h0] at d1 d3
  rw [List.nil_append] at d2
  rcases hs : Ps.runW ws (0, [], []) with ⟨z, r, o⟩
  rw [hs] at hI d1 d2
  simp only at hI d1 d2 ⊢
  have hsl := Ps.stL_len z r
  have hlen : ws.length = D.length + (z + r.length) := by rw [d1, List.length_append, hsl]
  have hzM := hI.zM
  have hrM := hI.rM
  have hDW : IsW D := by have := hW; rw [d1] at this; exact fun x hx => this x (List.mem_append_left _ hx)
  have hrW : IsW r := by have := hW; rw [d1] at this; exact fun x hx => this x (List.mem_append_right _ (List.mem_append_right _ hx))
  have htD : ws.take D.length = D := by rw [d1, List.take_append_of_le_length (Nat.le_refl _), List.take_length]
  have hdD : ws.drop D.length = Ps.stL z r := by rw [d1, List.drop_append_of_le_length (Nat.le_refl _), List.drop_length, List.nil_append]
  have hpk := ref21Words D hDW (by omega)
  unfold capnpref24_After.f
  rw [hn]
  simp only [Int.toNat_natCast]
  rw [ht, hd]
  refine Ev.congr (fun k => if_pos (by omega)) (Ev.congr (fun k => if_pos (by omega)) (Ev.bind (refWords_yes (bytesS ws) (bytesS_B ws) (by omega) (by omega)) ?_))
  rw [hwb]
  refine Ev.bind (refBegin ws hW (by omega)) (Ev.congr (fun k => Option.bind_some _ _) (Ev.congr (fun k => if_pos (by simp only [List.length_nil]; omega)) (Ev.congr (fun k => Option.bind_some _ _) ?_)))
  rw [d3, List.nil_append]
  by_cases hz : 0 < z
  · have hr0 : r = [] := by rcases hI.one with e | e; · omega
                            · exact e
    subst hr0
    have hrd : rd ws (D.length : Int) = 0 := by
      have h1 : (ws.drop D.length)[0]? = some 0 := by rw [hdD]; cases z with
        | zero => omega
        | succ z => simp [Ps.stL, List.replicate_succ]
      rw [List.getElem?_drop, Nat.add_zero] at h1
      simp only [rd, Int.toNat_natCast, List.getD_eq_getElem?_getD, h1, Option.getD_some]
    simp only [List.length_nil] at hlen
    refine Ev.congr (fun k => if_pos (by dsimp only; omega)) (Ev.congr (fun k => if_pos (by omega)) ?_)
    rw [hrd, show ((0 : Int) == 0) = true from rfl]
    refine Ev.step (f := fun k => (capnpref21_Words.f k D).bind fun t372 => some (p, (z : Int), ([] : List Int), t372)) (fun k => ?_) (Ev.bind hpk ?_)
    · simp only [capnpref24_After.j0, if_true]
      rw [if_pos (by omega), if_pos (by omega), Int.toNat_natCast, htD, w64 (by omega) (by omega), show (ws.length : Int) - (D.length : Int) = (z : Int) by omega]
    · rw [d2]; exact Ev.now _
  · have hz0 : z = 0 := by omega
    subst hz0
    have hst : Ps.stL 0 r = r := rfl
    have fin : Ev (fun k => capnpref24_After.j0 k ws (D.length : Int) false p 0) (p, ((0 : Nat) : Int), bytesS r, o) := by
      refine Ev.step (f := fun k => (capnpref01_Bytes.f k r).bind fun t379 => (capnpref21_Words.f k D).bind fun t386 => some (p, (0 : Int), t379, t386)) (fun k => ?_) (Ev.bind (refBytes r hrW (by omega)) (Ev.bind hpk ?_))
      · simp only [capnpref24_After.j0]
        rw [if_neg (by decide), if_pos (by omega), if_pos (by omega), Int.toNat_natCast, htD, hdD, hst]
      · rw [d2]; exact Ev.now _
    by_cases hlt : (D.length : Int) < (ws.length : Int)
    · refine Ev.congr (fun k => if_pos hlt) (Ev.congr (fun k => if_pos (by omega)) ?_)
      have hrd : (rd ws (D.length : Int) == 0) = false := by
        cases r with
        | nil => simp at hlen; omega
        | cons x l =>
          have h1 : (ws.drop D.length)[0]? = some x := by rw [hdD]; rfl
          rw [List.getElem?_drop, Nat.add_zero] at h1
          simp only [rd, Int.toNat_natCast, List.getD_eq_getElem?_getD, h1, Option.getD_some]
          have hf := hI.f x l rfl
          rw [beq_eq_false_iff_ne]
          intro e
          rw [e, Ps.of0] at hf
          omega
      rw [hrd]
      exact fin
    · exact Ev.congr (fun k => if_neg hlt) fin
theorem ref24Bytes_l0 (p : List Int) (z : Nat) (r : List Int) (hz : z ≤ 1000) (hp : p.length ≤ 1000000) (hr : r.length ≤ 1000000) : ∀ d i : Nat, i + d = 8 * z → Ev (fun k => capnpref24_Bytes.l0 k (List.replicate i 0) (i : Int) p (z : Int) r) (List.replicate (8 * z) 0 ++ r ++ p) := by
  have e8 : wrap64 (8 * (z : Int)) = ((8 * z : Nat) : Int) := by rw [w64 (by omega) (by omega)]; omega
  intro d
  induction d with
  | zero =>
    intro i hi
    refine Ev.step (f := fun _ => some (List.replicate (8 * z) 0 ++ r ++ p)) (fun k => ?_) (Ev.now _)
    simp only [capnpref24_Bytes.l0, e8]
    rw [if_neg (by omega), if_pos (by rw [List.length_replicate]; omega), Option.bind_some, if_pos (by rw [List.length_append, List.length_replicate]; omega), show i = 8 * z by omega]
  | succ d ih =>
    intro i hi
    have e : List.replicate i (0 : Int) ++ [0] = List.replicate (i + 1) 0 := by rw [List.replicate_succ']
    refine Ev.step (fun k => ?_) (ih (i + 1) (by omega))
    simp only [capnpref24_Bytes.l0, e8]
    rw [if_pos (by omega), if_pos (by rw [List.length_replicate]; omega), e, wrap_succ i (by omega)]
theorem ref24Bytes (p : List Int) (z : Nat) (r : List Int) (hz : z ≤ 1000) (hp : p.length ≤ 1000000) (hr : r.length ≤ 1000000) : Ev (fun k => capnpref24_Bytes.f k p (z : Int) r) (List.replicate (8 * z) 0 ++ r ++ p) :=
  ref24Bytes_l0 p z r hz hp hr (8 * z) 0 (by omega)
theorem zeros_bytesS : ∀ z : Nat, List.replicate (8 * z) (0 : Int) = bytesS (List.replicate z 0)
  | 0 => rfl
  | z + 1 => by rw [show 8 * (z + 1) = 8 + 8 * z by omega, List.replicate_succ, bytesS_cons, ← zeros_bytesS z, ← List.replicate_append_replicate]; rfl
theorem ref21Bytes_yes (b : List Int) (hB : IsB b) (hb : b.length ≤ 1000000000) (h8 : b.length % 8 = 0) : Ev (fun k => capnpref21_Bytes.f k b) (packS (wordsS b), 0) := by
  unfold capnpref21_Bytes.f
  refine Ev.bind (refWords_yes b hB (by omega) h8) (Ev.congr (fun k => if_pos (by simp)) (Ev.bind (ref21Words _ (wordsS_W hB) (by rw [wordsS_length]; omega)) (Ev.now _)))
theorem ref24Close {p rw : List Int} {z : Nat} (hI : Ps.Inv 255 z rw) (hW : IsW rw) (hp : p.length ≤ 1000000) : Ev (fun k => capnpref24_Close.f k p (z : Int) (bytesS rw)) (if 0 < p.length then ([], 9) else (Ps.openB (z : Int) (bytesS rw), 0)) := by
  unfold capnpref24_Close.f
  by_cases h0 : 0 < p.length
  · rw [if_pos h0]; exact Ev.congr (fun k => if_pos (by omega)) (Ev.now _)
  · rw [if_neg h0]
    have hp0 : p = [] := List.length_eq_zero_iff.mp (by omega)
    have hzM := hI.zM
    have hrM := hI.rM
    have hbl := bytesS_length rw
    have hsW : IsW (Ps.stL z rw) := by
      unfold Ps.stL
      exact IsW.append (fun x hx => by rw [(List.mem_replicate.mp hx).2]; decide) hW
    have e : List.replicate (8 * z) (0 : Int) ++ bytesS rw ++ p = bytesS (Ps.stL z rw) := by
      rw [hp0, List.append_nil, zeros_bytesS, ← bytesS_append]; rfl
    have hsl := Ps.stL_len z rw
    refine Ev.congr (fun k => if_neg (by omega)) (Ev.bind (ref24Bytes p z (bytesS rw) (by omega) hp (by omega)) ?_)
    rw [e]
    refine Ev.bind (ref21Bytes_yes _ (bytesS_B _) (by rw [bytesS_length]; omega) (by rw [bytesS_length]; omega)) ?_
    rw [wordsS_bytesS _ hsW, Ps.open_pack hI, Ps.openB_W]
    exact Ev.now _
end Go.Proofs.Ytibkbgaonjdpiaa.QPackstreamMatchesReference
