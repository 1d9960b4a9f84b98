/- The printed functions of the law FrameDoesNotAlias hold what their plain specifications say. -/
import Derived.Test.YtcdkgccmmfjnhaaPFrameDoesNotAliasx0
import Derived.Test.YtcdkgccmmfjnhaaPFrameDoesNotAliasx1
import Derived.Test.YtcdkgccmmfjnhaaPFrameDoesNotAliasx2
import Derived.Test.YtcdkgccmmfjnhaaPFrameDoesNotAliasx3
import Derived.Test.YtcdkgccmmfjnhaaPFrameDoesNotAliasx4
import Derived.Test.YtcdkgccmmfjnhaaM6
import Derived.Test.YtcdkgccmmfjnhaaFp
import Derived.Test.YtcdkgccmmfjnhaaQFrBase
namespace Go.Proofs.Ytcdkgccmmfjnhaa.QFrameDoesNotAlias
open Go Go.RowKit Go.Proofs.Ytcdkgccmmfjnhaa Go.Proofs.Ytcdkgccmmfjnhaa.M Go.Proofs.Ytcdkgccmmfjnhaa.PFrameDoesNotAlias Go.Proofs.YtcdkgccmmfjnhaaW.PrintWords Go.Proofs.YtcdkgccmmfjnhaaW.PrintLast Go.Proofs.YtcdkgccmmfjnhaaW.PrintMore
open Go.Proofs.Ytcdkgccmmfjnhaa.QFrBase (frTable frZero_l0 frZero or_val wordGet_step chunk_rd wordGet_l0 wordGet_yes wordGet_no wordWords_l0 wordWords_yes wordWords_no)
open Go.Proofs.Ytcdkgccmmfjnhaa.PFrBase
set_option linter.unusedVariables false
set_option linter.unusedSimpArgs false
set_option maxRecDepth 10000
set_option maxHeartbeats 1000000

/-! ### frame_Parse -/
open Go.Proofs.Ytcdkgccmmfjnhaa.Fm (num4 tbS parseL padS parseS parseF cat4 cat4_length lensS lensS_length bodyS bodyS_length bodyS_cons serF serF_length serF_B Okay sumL tbS_le num4_range byteB)
theorem rd_seg {S : List (List Int)} {i : Nat} (h : i < S.length) : rd_L3 S (i : Int) = S[i] := by
  unfold rd_L3
  simp only [Int.toNat_natCast, List.getD_eq_getElem?_getD, List.getElem?_eq_getElem h, Option.getD_some]
theorem frParse {l : List Int} (hl : l.length ≤ 1000000) (hB : IsB l) : frame_Parse.f l = some (parseS l) := Go.Proofs.Ytcdkgccmmfjnhaa.Fm.parseF_eq hl hB
def serS (S : List (List Int)) : List Int × Int := if 1 ≤ S.length ∧ S.length ≤ 512 then (serF S, 0) else ([], 1)
def Short (S : List (List Int)) : Prop := ∀ s ∈ S, IsW s ∧ s.length ≤ 1000000
theorem Short.okay {S : List (List Int)} (h : Short S) : Okay S := fun s hs => ⟨(h s hs).1, by have := (h s hs).2; omega⟩
theorem Short.sum : ∀ {S : List (List Int)}, Short S → sumL S ≤ 1000000 * S.length
  | [], _ => by simp [sumL]
  | s :: S, h => by
    have h1 := (h s List.mem_cons_self).2
    have h2 := Short.sum (S := S) (fun t ht => h t (List.mem_cons_of_mem _ ht))
    simp only [sumL, List.length_cons]; omega

/-! ### frame_put -/
theorem frPut_l0 : ∀ (d i : Nat), i + d = 4 → ∀ (out : List Int) (v : Int), out.length + d < 140737488355328 → Ev (fun k => frame_put.l0 k out v (i : Int)) (out ++ bs d v)
  | 0, i, hi, out, v, ho => by
    rw [show bs 0 v = [] from rfl, List.append_nil]
    exact Ev.step (f := fun _ => some out) (fun k => by simp only [frame_put.l0]; rw [if_neg (by omega)]) (Ev.now _)
  | d + 1, i, hi, out, v, ho => by
    have ih := frPut_l0 d (i + 1) (by omega) (out ++ [v % 256]) (v / 256) (by rw [List.length_append, List.length_singleton]; omega)
    rw [List.append_assoc] at ih
    refine Ev.step (fun k => ?_) ih
    simp only [frame_put.l0]
    rw [if_pos (by omega), if_pos (by omega), wrap_succ i (by omega)]
theorem frPut (out : List Int) (v : Int) (ho : out.length ≤ 100000000000) : Ev (fun k => frame_put.f k out v) (out ++ bs 4 v) := frPut_l0 4 0 rfl out v (by omega)

/-! ### word_Bytes -/
theorem wordBytes_l1 (x5 : Int) (x11 : List Int) (x12 x13 r) : ∀ d j : Nat, j + d = 8 → ∀ x3 : List Int, x3.length + d < 140737488355328 → Ev (fun k => word_Bytes.l0 k (x3 ++ bs d (x5 / 256 ^ j)) x11 x12 (wrap64 (x13 + 1))) r → Ev (fun k => word_Bytes.l1 k x3 x5 x11 x12 x13 (j : Int)) r := by
  intro d
  induction d with
  | zero =>
    intro j hj x3 hl h
    obtain rfl : j = 8 := by omega
    refine Ev.step (fun k => ?_) h
    simp only [word_Bytes.l1]
    rw [if_neg (by omega)]
    simp [bs]
  | succ d ih =>
    intro j hj x3 hl h
    refine Ev.step (f := fun k => word_Bytes.l1 k (x3 ++ [x5 / 256 ^ j % 256]) x5 x11 x12 x13 ((j + 1 : Nat) : Int)) (fun k => ?_) (ih (j + 1) (by omega) _ (by simp; omega) ?_)
    · simp only [word_Bytes.l1]
      rw [if_pos (by omega), if_pos (by rw [w64 (by omega) (by omega), wu (by omega) (by omega)]; omega), if_pos (by omega), shr8 _ _ (by omega), w64 (by omega) (by omega), show (j : Int) + 1 = ((j + 1 : Nat) : Int) by omega]
    · rw [List.append_assoc, List.singleton_append, Int.pow_succ, ← Int.ediv_ediv_of_nonneg (Int.pow_nonneg (by decide))]; exact h
theorem wordBytes_l0 (x0 : List Int) (hx : x0.length * 8 < 140737488355328) : ∀ d i : Nat, i + d = x0.length → ∀ x3 : List Int, x3 = bytesS (x0.take i) → Ev (fun k => word_Bytes.l0 k x3 x0 (x0.length : Int) (i : Int)) (bytesS x0) := by
  intro d
  induction d with
  | zero =>
    intro i hi x3 h
    refine Ev.step (f := fun _ => some x3) (fun k => ?_) ?_
    · simp only [word_Bytes.l0]; rw [if_neg (by omega)]
    · rw [h, List.take_of_length_le (by omega)]; exact Ev.now _
  | succ d ih =>
    intro i hi x3 h
    refine Ev.step (f := fun k => word_Bytes.l1 k x3 (rd x0 (i : Int)) x0 (x0.length : Int) (i : Int) ((0 : Nat) : Int)) (fun k => ?_) (wordBytes_l1 _ x0 _ _ _ 8 0 rfl _ ?_ ?_)
    · simp only [word_Bytes.l0]; rw [if_pos (by omega), if_pos (by omega), if_pos (by omega)]; rfl
    · rw [h, bytesS_length, List.length_take]; omega
    · rw [w64 (by omega) (by omega), show (i : Int) + 1 = ((i + 1 : Nat) : Int) by omega]
      refine ih (i + 1) (by omega) _ ?_
      rw [take_rd (by omega), bytesS_append, h]; simp [bytesS]
theorem wordBytes (l : List Int) (hx : l.length * 8 < 140737488355328) : Ev (fun k => word_Bytes.f k l) (bytesS l) := by
  refine Ev.congr (fun k => ?_) (wordBytes_l0 l hx l.length 0 (by omega) [] rfl)
  unfold word_Bytes.f
  rw [if_pos (by rw [w64 (by omega) (by omega)]; omega), if_pos (by rw [w64 (by omega) (by omega)]; omega)]
  rfl

/-! ### frame_Serialize -/
theorem cat4_snoc (L : List Int) (x : Int) : cat4 (L ++ [x]) = cat4 L ++ bs 4 x := by unfold Fm.cat4; rw [List.flatMap_append]; simp
theorem frSer_l1 (S : List (List Int)) (hk : Short S) (hn : S.length ≤ 512) : ∀ (d i : Nat), i + d = S.length → ∀ x4 : List Int, x4.length + 8000000 * d ≤ 10000000000 → Ev (fun k => frame_Serialize.l1 k x4 S (S.length : Int) (i : Int)) (x4 ++ bodyS (S.drop i), 0)
  | 0, i, hi, x4, hx => by
    rw [List.drop_of_length_le (by omega), show bodyS [] = [] from rfl, List.append_nil]
    exact Ev.step (f := fun _ => some (x4, 0)) (fun k => by simp only [frame_Serialize.l1]; rw [if_neg (by omega)]) (Ev.now _)
  | d + 1, i, hi, x4, hx => by
    have hlt : i < S.length := by omega
    have hs := hk S[i] (List.getElem_mem hlt)
    have hb := bytesS_length S[i]
    have ih := frSer_l1 S hk hn d (i + 1) (by omega) (x4 ++ bytesS S[i]) (by rw [List.length_append]; omega)
    rw [List.append_assoc, ← bodyS_cons, ← List.drop_eq_getElem_cons hlt] at ih
    refine Ev.step (f := fun k => (word_Bytes.f k S[i]).bind fun t133 => if x4.length + t133.length < 140737488355328 then frame_Serialize.l1 k (x4 ++ t133) S (S.length : Int) ((i + 1 : Nat) : Int) else none) (fun k => ?_) (Ev.bind (wordBytes S[i] (by omega)) (Ev.congr (fun k => if_pos (by omega)) ih))
    simp only [frame_Serialize.l1]
    rw [if_pos (by omega), if_pos (by omega), if_pos (by omega), rd_seg hlt, wrap_succ i (by omega)]
theorem frSer_l0 (S : List (List Int)) (hk : Short S) (h1 : 1 ≤ S.length) (hn : S.length ≤ 512) : ∀ (d i : Nat), i + d = S.length → ∀ x4 : List Int, x4 = cat4 (((S.length : Int) - 1) :: (S.take i).map fun s => (s.length : Int)) → Ev (fun k => frame_Serialize.l0 k S x4 S (S.length : Int) (i : Int)) (serF S, 0)
  | 0, i, hi, x4, hx => by
    have ht := tbS_le S.length
    have hi2 : i = S.length := by omega
    rw [hi2, List.take_length] at hx
    have hx2 : x4 = cat4 (lensS S) := hx
    have hl : x4.length = 4 * (S.length + 1) := by rw [hx2, cat4_length, lensS_length]
    have ew : wrap64 (((tbS S.length : Nat) : Int) - (x4.length : Int)) = ((tbS S.length - 4 * (S.length + 1) : Nat) : Int) := by rw [hl, w64 (by omega) (by omega)]; omega
    have fin := frSer_l1 S hk hn S.length 0 (by omega) (x4 ++ List.replicate (tbS S.length - 4 * (S.length + 1)) 0) (by rw [List.length_append, List.length_replicate]; omega)
    rw [List.drop_zero, List.append_assoc, hx2] at fin
    rw [hx2] at ew hl ⊢
    refine Ev.step (fun k => ?_) fin
    simp only [frame_Serialize.l0]
    rw [if_neg (by omega), show frame_TableBytes.f (S.length : Int) = _ from frTable S.length (by omega), Option.bind_some]
    rw [show (((4 * (S.length + 1) + 7) / 8 * 8 : Nat) : Int) = ((tbS S.length : Nat) : Int) from rfl, ew, if_pos (by omega), Int.toNat_natCast, if_pos (by omega)]
    rfl
  | d + 1, i, hi, x4, hx => by
    have hlt : i < S.length := by omega
    have hs := hk S[i] (List.getElem_mem hlt)
    have hl : x4.length = 4 * (i + 1) := by rw [hx, cat4_length, List.length_cons, List.length_map, List.length_take]; omega
    have ih := frSer_l0 S hk h1 hn d (i + 1) (by omega) (x4 ++ bs 4 (S[i].length : Int)) (by
      have e : S.take (i + 1) = S.take i ++ [S[i]] := by rw [List.take_append_getElem hlt]
      rw [hx, e, List.map_append, ← List.cons_append]; exact (cat4_snoc _ _).symm)
    refine Ev.step (f := fun k => (frame_put.f k x4 (S[i].length : Int)).bind fun t125 => frame_Serialize.l0 k S t125 S (S.length : Int) ((i + 1 : Nat) : Int)) (fun k => ?_) (Ev.bind (frPut x4 (S[i].length : Int) (by omega)) ih)
    simp only [frame_Serialize.l0]
    rw [if_pos (by omega), if_pos (by omega), if_pos (by omega), rd_seg hlt, if_neg (by omega), wrap_succ i (by omega)]
theorem frSer (S : List (List Int)) (hk : Short S) (hn : S.length ≤ 1000000) : Ev (fun k => frame_Serialize.f k S) (serS S) := by
  unfold frame_Serialize.f serS
  have no : Ev (fun k => frame_Serialize.j0 k S true) ([], 1) := Ev.step (f := fun _ => some ([], 1)) (fun k => by simp only [frame_Serialize.j0, if_true]) (Ev.now _)
  by_cases h1 : (S.length : Int) < 1
  · rw [if_neg (by omega)]
    exact Ev.congr (fun k => if_pos h1) no
  · refine Ev.congr (fun k => if_neg h1) ?_
    by_cases h2 : (S.length : Int) > 512
    · rw [if_neg (by omega), decide_eq_true h2]; exact no
    · rw [if_pos ⟨by omega, by omega⟩, decide_eq_false h2]
      refine Ev.step (f := fun k => (frame_put.f k ([] : List Int) ((S.length : Int) - 1)).bind fun t121 => frame_Serialize.l0 k S t121 S (S.length : Int) 0) (fun k => ?_) (Ev.bind (frPut [] _ (by simp)) (frSer_l0 S hk (by omega) (by omega) S.length 0 (by omega) _ ?_))
      · simp only [frame_Serialize.j0]
        rw [if_neg (by decide), w64 (by omega) (by omega)]
      · simp [Fm.cat4]

/-! ### capnpref01_SameWords -/
theorem refSameWords_l0 (a b : List Int) (hl : a.length = b.length) (ha : a.length ≤ 140737488355328) : ∀ d i : Nat, i + d = a.length → Ev (fun k => capnpref01_SameWords.l0 k a b (i : Int)) (decide (a.drop i = b.drop i)) := by
  intro d
  induction d with
  | zero =>
    intro i hi
    refine Ev.step (f := fun _ => some true) (fun k => ?_) ?_
    · simp only [capnpref01_SameWords.l0]; rw [if_neg (by omega)]
    · rw [List.drop_of_length_le (by omega), List.drop_of_length_le (by omega), decide_eq_true rfl]; exact Ev.now _
  | succ d ih =>
    intro i hi
    rw [drop_rd (show i < a.length by omega), drop_rd (show i < b.length by omega)]
    by_cases e : rd a (i : Int) = rd b (i : Int)
    · refine Ev.step (f := fun k => capnpref01_SameWords.l0 k a b ((i + 1 : Nat) : Int)) (fun k => ?_) ?_
      · simp only [capnpref01_SameWords.l0]
        rw [if_pos (by omega), if_pos (by omega), if_pos (by omega), if_pos e, w64 (by omega) (by omega), show (i : Int) + 1 = ((i + 1 : Nat) : Int) by omega]
      · have := ih (i + 1) (by omega)
        simpa [e] using this
    · refine Ev.step (f := fun _ => some false) (fun k => ?_) ?_
      · simp only [capnpref01_SameWords.l0]
        rw [if_pos (by omega), if_pos (by omega), if_pos (by omega), if_neg e]
      · have : decide (rd a (i : Int) :: a.drop (i + 1) = rd b (i : Int) :: b.drop (i + 1)) = false := by simp [e]
        rw [this]; exact Ev.now _
theorem refSameWords (a b : List Int) (ha : a.length ≤ 140737488355328) : Ev (fun k => capnpref01_SameWords.f k a b) (decide (a = b)) := by
  by_cases hl : a.length = b.length
  · refine Ev.congr (fun k => ?_) (refSameWords_l0 a b hl ha a.length 0 (by omega))
    unfold capnpref01_SameWords.f
    rw [if_pos (by omega)]; rfl
  · refine Ev.congr (f := fun _ => some (decide (a = b))) (fun k => ?_) (Ev.now _)
    unfold capnpref01_SameWords.f
    rw [if_neg (by omega), decide_eq_false (fun h => hl (by rw [h]))]

/-! ### capnpref04_Same -/
theorem ref04Same_l0 (a b : List (List Int)) (hl : a.length = b.length) (ha : a.length ≤ 1000000) (hs : ∀ s ∈ a, s.length ≤ 100000000) : ∀ d i : Nat, i + d = a.length → Ev (fun k => capnpref04_Same.l0 k a b (i : Int)) (decide (a.drop i = b.drop i)) := by
  intro d
  induction d with
  | zero =>
    intro i hi
    rw [List.drop_of_length_le (by omega), List.drop_of_length_le (by omega), decide_eq_true rfl]
    exact Ev.step (f := fun _ => some true) (fun k => by simp only [capnpref04_Same.l0]; rw [if_neg (by omega)]) (Ev.now _)
  | succ d ih =>
    intro i hi
    have h1 : i < a.length := by omega
    have h2 : i < b.length := by omega
    have hb := hs a[i] (List.getElem_mem h1)
    refine Ev.step (f := fun k => (capnpref01_SameWords.f k a[i] b[i]).bind fun t143 => if t143 = true then capnpref04_Same.l0 k a b ((i + 1 : Nat) : Int) else some false) (fun k => ?_) (Ev.bind (refSameWords a[i] b[i] (by omega)) ?_)
    · simp only [capnpref04_Same.l0]
      rw [if_pos (by omega), if_pos (by omega), if_pos (by omega), rd_seg h1, rd_seg h2, wrap_succ i (by omega)]
    · rw [List.drop_eq_getElem_cons h1, List.drop_eq_getElem_cons h2]
      by_cases he : a[i] = b[i]
      · have e : decide (a[i] :: a.drop (i + 1) = b[i] :: b.drop (i + 1)) = decide (a.drop (i + 1) = b.drop (i + 1)) := by rw [decide_eq_decide]; exact ⟨fun h => (List.cons.inj h).2, fun h => by rw [he, h]⟩
        rw [e]
        exact Ev.congr (fun k => if_pos (decide_eq_true he)) (ih (i + 1) (by omega))
      · rw [decide_eq_false (p := _ :: _ = _) (fun h => he (List.cons.inj h).1)]
        exact Ev.congr (fun k => if_neg (by simpa using he)) (Ev.now _)
theorem ref04Same (a b : List (List Int)) (ha : a.length ≤ 1000000) (hs : ∀ s ∈ a, s.length ≤ 100000000) : Ev (fun k => capnpref04_Same.f k a b) (decide (a = b)) := by
  by_cases hl : a.length = b.length
  · refine Ev.congr (fun k => ?_) (ref04Same_l0 a b hl ha hs a.length 0 (by omega))
    unfold capnpref04_Same.f
    rw [if_pos (by omega)]; rfl
  · refine Ev.congr (f := fun _ => some (decide (a = b))) (fun k => ?_) (Ev.now _)
    unfold capnpref04_Same.f
    rw [if_neg (by omega), decide_eq_false (fun h => hl (by rw [h]))]

/-! ### capnpref01_Same -/
theorem refSame_l0 (a b : List Int) (hl : a.length = b.length) (ha : a.length ≤ 140737488355328) : ∀ d i : Nat, i + d = a.length → Ev (fun k => capnpref01_Same.l0 k a b (i : Int)) (decide (a.drop i = b.drop i)) := by
  intro d
  induction d with
  | zero =>
    intro i hi
    refine Ev.step (f := fun _ => some true) (fun k => ?_) ?_
    · simp only [capnpref01_Same.l0]; rw [if_neg (by omega)]
    · rw [List.drop_of_length_le (by omega), List.drop_of_length_le (by omega), decide_eq_true rfl]; exact Ev.now _
  | succ d ih =>
    intro i hi
    rw [drop_rd (show i < a.length by omega), drop_rd (show i < b.length by omega)]
    by_cases e : rd a (i : Int) = rd b (i : Int)
    · refine Ev.step (f := fun k => capnpref01_Same.l0 k a b ((i + 1 : Nat) : Int)) (fun k => ?_) ?_
      · simp only [capnpref01_Same.l0]
        rw [if_pos (by omega), if_pos (by omega), if_pos (by omega), if_pos e, w64 (by omega) (by omega), show (i : Int) + 1 = ((i + 1 : Nat) : Int) by omega]
      · have := ih (i + 1) (by omega)
        simpa [e] using this
    · refine Ev.step (f := fun _ => some false) (fun k => ?_) ?_
      · simp only [capnpref01_Same.l0]
        rw [if_pos (by omega), if_pos (by omega), if_pos (by omega), if_neg e]
      · have : decide (rd a (i : Int) :: a.drop (i + 1) = rd b (i : Int) :: b.drop (i + 1)) = false := by simp [e]
        rw [this]; exact Ev.now _
theorem refSame (a b : List Int) (ha : a.length ≤ 140737488355328) : Ev (fun k => capnpref01_Same.f k a b) (decide (a = b)) := by
  by_cases hl : a.length = b.length
  · refine Ev.congr (fun k => ?_) (refSame_l0 a b hl ha a.length 0 (by omega))
    unfold capnpref01_Same.f
    rw [if_pos (by omega)]; rfl
  · refine Ev.congr (f := fun _ => some (decide (a = b))) (fun k => ?_) (Ev.now _)
    unfold capnpref01_Same.f
    rw [if_neg (by omega), decide_eq_false (fun h => hl (by rw [h]))]

/-! ### capnplaw04_awake -/
theorem awake04 : Ev (fun k => capnplaw04_awake.f k) true := Ev.of (fun k => capnplaw04_awake.mono k) (k := 60) (by kernel_rfl)

/-! ### capnpref04_Few -/
def fewS (S : List (List Int)) : Bool := S.all (fun s => decide (s.length ≤ 300)) && decide (S.length ≤ 20)
theorem ref04Few_l0 (S : List (List Int)) (hn : S.length ≤ 140737488355328) : ∀ d i : Nat, i + d = S.length → Ev (fun k => capnpref04_Few.l0 k S (i : Int)) ((S.drop i).all (fun s => decide (s.length ≤ 300)) && decide (S.length ≤ 20)) := by
  intro d
  induction d with
  | zero =>
    intro i hi
    rw [List.drop_of_length_le (by omega), List.all_nil, Bool.true_and]
    refine Ev.step (f := fun _ => some (decide (S.length ≤ 20))) (fun k => ?_) (Ev.now _)
    simp only [capnpref04_Few.l0]
    rw [if_neg (by omega)]
    congr 1
    rw [decide_eq_decide]; omega
  | succ d ih =>
    intro i hi
    have h1 : i < S.length := by omega
    rw [List.drop_eq_getElem_cons h1, List.all_cons]
    by_cases hs : S[i].length ≤ 300
    · rw [decide_eq_true hs, Bool.true_and]
      refine Ev.step (fun k => ?_) (ih (i + 1) (by omega))
      simp only [capnpref04_Few.l0]
      rw [if_pos (by omega), if_pos (by omega), rd_seg h1, if_neg (by omega), wrap_succ i (by omega)]
    · rw [decide_eq_false hs, Bool.false_and, Bool.false_and]
      refine Ev.step (f := fun _ => some false) (fun k => ?_) (Ev.now _)
      simp only [capnpref04_Few.l0]
      rw [if_pos (by omega), if_pos (by omega), rd_seg h1, if_pos (by omega)]
theorem ref04Few (S : List (List Int)) (hn : S.length ≤ 140737488355328) : Ev (fun k => capnpref04_Few.f k S) (fewS S) := by
  have := ref04Few_l0 S hn S.length 0 (by omega)
  rw [List.drop_zero] at this
  exact this
theorem fewS_short {S : List (List Int)} (h : fewS S = true) (hW : ∀ s ∈ S, IsW s) : Short S ∧ S.length ≤ 20 ∧ ∀ s ∈ S, s.length ≤ 300 := by
  unfold fewS at h
  simp only [Bool.and_eq_true, decide_eq_true_eq, List.all_eq_true] at h
  exact ⟨fun s hs => ⟨hW s hs, by have := h.1 s hs; omega⟩, h.2, h.1⟩
end Go.Proofs.Ytcdkgccmmfjnhaa.QFrameDoesNotAlias
