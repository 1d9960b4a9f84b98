/- The printed functions of the law FrameMatchesReference hold what their plain specifications say. -/
import Derived.Test.YtcdkgccmmfjnhaaPFrameMatchesReferencex0
import Derived.Test.YtcdkgccmmfjnhaaPFrameMatchesReferencex1
import Derived.Test.YtcdkgccmmfjnhaaPFrameMatchesReferencex2
import Derived.Test.YtcdkgccmmfjnhaaPFrameMatchesReferencex3
import Derived.Test.YtcdkgccmmfjnhaaPFrameMatchesReferencex4
import Derived.Test.YtcdkgccmmfjnhaaPFrameMatchesReferencex5
import Derived.Test.YtcdkgccmmfjnhaaM6
import Derived.Test.YtcdkgccmmfjnhaaFp
import Derived.Test.YtcdkgccmmfjnhaaQFrBase
namespace Go.Proofs.Ytcdkgccmmfjnhaa.QFrameMatchesReference
open Go Go.RowKit Go.Proofs.Ytcdkgccmmfjnhaa Go.Proofs.Ytcdkgccmmfjnhaa.M Go.Proofs.Ytcdkgccmmfjnhaa.PFrameMatchesReference Go.Proofs.YtcdkgccmmfjnhaaW.PrintWords Go.Proofs.YtcdkgccmmfjnhaaW.PrintLast Go.Proofs.YtcdkgccmmfjnhaaW.PrintMore
open Go.Proofs.Ytcdkgccmmfjnhaa.QFrBase (frTable frZero_l0 frZero or_val wordGet_step chunk_rd wordGet_l0 wordGet_yes wordGet_no wordWords_l0 wordWords_yes wordWords_no)
open Go.Proofs.Ytcdkgccmmfjnhaa.PFrBase
set_option linter.unusedVariables false
set_option linter.unusedSimpArgs false
set_option maxRecDepth 10000
set_option maxHeartbeats 1000000

/-! ### frame_Parse -/
open Go.Proofs.Ytcdkgccmmfjnhaa.Fm (num4 tbS parseL padS parseS parseF cat4 cat4_length lensS lensS_length bodyS bodyS_length bodyS_cons serF serF_length serF_B Okay sumL tbS_le num4_range byteB)
theorem rd_seg {S : List (List Int)} {i : Nat} (h : i < S.length) : rd_L3 S (i : Int) = S[i] := by
  unfold rd_L3
  simp only [Int.toNat_natCast, List.getD_eq_getElem?_getD, List.getElem?_eq_getElem h, Option.getD_some]
theorem frParse {l : List Int} (hl : l.length ≤ 1000000) (hB : IsB l) : frame_Parse.f l = some (parseS l) := Go.Proofs.Ytcdkgccmmfjnhaa.Fm.parseF_eq hl hB
def serS (S : List (List Int)) : List Int × Int := if 1 ≤ S.length ∧ S.length ≤ 512 then (serF S, 0) else ([], 1)
def Short (S : List (List Int)) : Prop := ∀ s ∈ S, IsW s ∧ s.length ≤ 1000000
theorem Short.okay {S : List (List Int)} (h : Short S) : Okay S := fun s hs => ⟨(h s hs).1, by have := (h s hs).2; omega⟩
theorem Short.sum : ∀ {S : List (List Int)}, Short S → sumL S ≤ 1000000 * S.length
  | [], _ => by simp [sumL]
  | s :: S, h => by
    have h1 := (h s List.mem_cons_self).2
    have h2 := Short.sum (S := S) (fun t ht => h t (List.mem_cons_of_mem _ ht))
    simp only [sumL, List.length_cons]; omega

/-! ### frame_put -/
theorem frPut_l0 : ∀ (d i : Nat), i + d = 4 → ∀ (out : List Int) (v : Int), out.length + d < 140737488355328 → Ev (fun k => frame_put.l0 k out v (i : Int)) (out ++ bs d v)
  | 0, i, hi, out, v, ho => by
    rw [show bs 0 v = [] from rfl, List.append_nil]
    exact Ev.step (f := fun _ => some out) (fun k => by simp only [frame_put.l0]; rw [if_neg (by omega)]) (Ev.now _)
  | d + 1, i, hi, out, v, ho => by
    have ih := frPut_l0 d (i + 1) (by omega) (out ++ [v % 256]) (v / 256) (by rw [List.length_append, List.length_singleton]; omega)
    rw [List.append_assoc] at ih
    refine Ev.step (fun k => ?_) ih
    simp only [frame_put.l0]
    rw [if_pos (by omega), if_pos (by omega), wrap_succ i (by omega)]
theorem frPut (out : List Int) (v : Int) (ho : out.length ≤ 100000000000) : Ev (fun k => frame_put.f k out v) (out ++ bs 4 v) := frPut_l0 4 0 rfl out v (by omega)

/-! ### word_Bytes -/
theorem wordBytes_l1 (x5 : Int) (x11 : List Int) (x12 x13 r) : ∀ d j : Nat, j + d = 8 → ∀ x3 : List Int, x3.length + d < 140737488355328 → Ev (fun k => word_Bytes.l0 k (x3 ++ bs d (x5 / 256 ^ j)) x11 x12 (wrap64 (x13 + 1))) r → Ev (fun k => word_Bytes.l1 k x3 x5 x11 x12 x13 (j : Int)) r := by
  intro d
  induction d with
  | zero =>
    intro j hj x3 hl h
    obtain rfl : j = 8 := by omega
    refine Ev.step (fun k => ?_) h
    simp only [word_Bytes.l1]
    rw [if_neg (by omega)]
    simp [bs]
  | succ d ih =>
    intro j hj x3 hl h
    refine Ev.step (f := fun k => word_Bytes.l1 k (x3 ++ [x5 / 256 ^ j % 256]) x5 x11 x12 x13 ((j + 1 : Nat) : Int)) (fun k => ?_) (ih (j + 1) (by omega) _ (by simp; omega) ?_)
    · simp only [word_Bytes.l1]
      rw [if_pos (by omega), if_pos (by rw [w64 (by omega) (by omega), wu (by omega) (by omega)]; omega), if_pos (by omega), shr8 _ _ (by omega), w64 (by omega) (by omega), show (j : Int) + 1 = ((j + 1 : Nat) : Int) by omega]
    · rw [List.append_assoc, List.singleton_append, Int.pow_succ, ← Int.ediv_ediv_of_nonneg (Int.pow_nonneg (by decide))]; exact h
theorem wordBytes_l0 (x0 : List Int) (hx : x0.length * 8 < 140737488355328) : ∀ d i : Nat, i + d = x0.length → ∀ x3 : List Int, x3 = bytesS (x0.take i) → Ev (fun k => word_Bytes.l0 k x3 x0 (x0.length : Int) (i : Int)) (bytesS x0) := by
  intro d
  induction d with
  | zero =>
    intro i hi x3 h
    refine Ev.step (f := fun _ => some x3) (fun k => ?_) ?_
    · simp only [word_Bytes.l0]; rw [if_neg (by omega)]
    · rw [h, List.take_of_length_le (by omega)]; exact Ev.now _
  | succ d ih =>
    intro i hi x3 h
    refine Ev.step (f := fun k => word_Bytes.l1 k x3 (rd x0 (i : Int)) x0 (x0.length : Int) (i : Int) ((0 : Nat) : Int)) (fun k => ?_) (wordBytes_l1 _ x0 _ _ _ 8 0 rfl _ ?_ ?_)
    · simp only [word_Bytes.l0]; rw [if_pos (by omega), if_pos (by omega), if_pos (by omega)]; rfl
    · rw [h, bytesS_length, List.length_take]; omega
    · rw [w64 (by omega) (by omega), show (i : Int) + 1 = ((i + 1 : Nat) : Int) by omega]
      refine ih (i + 1) (by omega) _ ?_
      rw [take_rd (by omega), bytesS_append, h]; simp [bytesS]
theorem wordBytes (l : List Int) (hx : l.length * 8 < 140737488355328) : Ev (fun k => word_Bytes.f k l) (bytesS l) := by
  refine Ev.congr (fun k => ?_) (wordBytes_l0 l hx l.length 0 (by omega) [] rfl)
  unfold word_Bytes.f
  rw [if_pos (by rw [w64 (by omega) (by omega)]; omega), if_pos (by rw [w64 (by omega) (by omega)]; omega)]
  rfl

/-! ### frame_Serialize -/
theorem cat4_snoc (L : List Int) (x : Int) : cat4 (L ++ [x]) = cat4 L ++ bs 4 x := by unfold Fm.cat4; rw [List.flatMap_append]; simp
theorem frSer_l1 (S : List (List Int)) (hk : Short S) (hn : S.length ≤ 512) : ∀ (d i : Nat), i + d = S.length → ∀ x4 : List Int, x4.length + 8000000 * d ≤ 10000000000 → Ev (fun k => frame_Serialize.l1 k x4 S (S.length : Int) (i : Int)) (x4 ++ bodyS (S.drop i), 0)
  | 0, i, hi, x4, hx => by
    rw [List.drop_of_length_le (by omega), show bodyS [] = [] from rfl, List.append_nil]
    exact Ev.step (f := fun _ => some (x4, 0)) (fun k => by simp only [frame_Serialize.l1]; rw [if_neg (by omega)]) (Ev.now _)
  | d + 1, i, hi, x4, hx => by
    have hlt : i < S.length := by omega
    have hs := hk S[i] (List.getElem_mem hlt)
    have hb := bytesS_length S[i]
    have ih := frSer_l1 S hk hn d (i + 1) (by omega) (x4 ++ bytesS S[i]) (by rw [List.length_append]; omega)
    rw [List.append_assoc, ← bodyS_cons, ← List.drop_eq_getElem_cons hlt] at ih
    refine Ev.step (f := fun k => (word_Bytes.f k S[i]).bind fun t133 => if x4.length + t133.length < 140737488355328 then frame_Serialize.l1 k (x4 ++ t133) S (S.length : Int) ((i + 1 : Nat) : Int) else none) (fun k => ?_) (Ev.bind (wordBytes S[i] (by omega)) (Ev.congr (fun k => if_pos (by omega)) ih))
    simp only [frame_Serialize.l1]
    rw [if_pos (by omega), if_pos (by omega), if_pos (by omega), rd_seg hlt, wrap_succ i (by omega)]
theorem frSer_l0 (S : List (List Int)) (hk : Short S) (h1 : 1 ≤ S.length) (hn : S.length ≤ 512) : ∀ (d i : Nat), i + d = S.length → ∀ x4 : List Int, x4 = cat4 (((S.length : Int) - 1) :: (S.take i).map fun s => (s.length : Int)) → Ev (fun k => frame_Serialize.l0 k S x4 S (S.length : Int) (i : Int)) (serF S, 0)
  | 0, i, hi, x4, hx => by
    have ht := tbS_le S.length
    have hi2 : i = S.length := by omega
    rw [hi2, List.take_length] at hx
    have hx2 : x4 = cat4 (lensS S) := hx
    have hl : x4.length = 4 * (S.length + 1) := by rw [hx2, cat4_length, lensS_length]
    have ew : wrap64 (((tbS S.length : Nat) : Int) - (x4.length : Int)) = ((tbS S.length - 4 * (S.length + 1) : Nat) : Int) := by rw [hl, w64 (by omega) (by omega)]; omega
    have fin := frSer_l1 S hk hn S.length 0 (by omega) (x4 ++ List.replicate (tbS S.length - 4 * (S.length + 1)) 0) (by rw [List.length_append, List.length_replicate]; omega)
    rw [List.drop_zero, List.append_assoc, hx2] at fin
    rw [hx2] at ew hl ⊢
    refine Ev.step (fun k => ?_) fin
    simp only [frame_Serialize.l0]
    rw [if_neg (by omega), show frame_TableBytes.f (S.length : Int) = _ from frTable S.length (by omega), Option.bind_some]
    rw [show (((4 * (S.length + 1) + 7) / 8 * 8 : Nat) : Int) = ((tbS S.length : Nat) : Int) from rfl, ew, if_pos (by omega), Int.toNat_natCast, if_pos (by omega)]
    rfl
  | d + 1, i, hi, x4, hx => by
    have hlt : i < S.length := by omega
    have hs := hk S[i] (List.getElem_mem hlt)
    have hl : x4.length = 4 * (i + 1) := by rw [hx, cat4_length, List.length_cons, List.length_map, List.length_take]; omega
    have ih := frSer_l0 S hk h1 hn d (i + 1) (by omega) (x4 ++ bs 4 (S[i].length : Int)) (by
      have e : S.take (i + 1) = S.take i ++ [S[i]] := by rw [List.take_append_getElem hlt]
      rw [hx, e, List.map_append, ← List.cons_append]; exact (cat4_snoc _ _).symm)
    refine Ev.step (f := fun k => (frame_put.f k x4 (S[i].length : Int)).bind fun t125 => frame_Serialize.l0 k S t125 S (S.length : Int) ((i + 1 : Nat) : Int)) (fun k => ?_) (Ev.bind (frPut x4 (S[i].length : Int) (by omega)) ih)
    simp only [frame_Serialize.l0]
    rw [if_pos (by omega), if_pos (by omega), if_pos (by omega), rd_seg hlt, if_neg (by omega), wrap_succ i (by omega)]
theorem frSer (S : List (List Int)) (hk : Short S) (hn : S.length ≤ 1000000) : Ev (fun k => frame_Serialize.f k S) (serS S) := by
  unfold frame_Serialize.f serS
  have no : Ev (fun k => frame_Serialize.j0 k S true) ([], 1) := Ev.step (f := fun _ => some ([], 1)) (fun k => by simp only [frame_Serialize.j0, if_true]) (Ev.now _)
  by_cases h1 : (S.length : Int) < 1
  · rw [if_neg (by omega)]
    exact Ev.congr (fun k => if_pos h1) no
  · refine Ev.congr (fun k => if_neg h1) ?_
    by_cases h2 : (S.length : Int) > 512
    · rw [if_neg (by omega), decide_eq_true h2]; exact no
    · rw [if_pos ⟨by omega, by omega⟩, decide_eq_false h2]
      refine Ev.step (f := fun k => (frame_put.f k ([] : List Int) ((S.length : Int) - 1)).bind fun t121 => frame_Serialize.l0 k S t121 S (S.length : Int) 0) (fun k => ?_) (Ev.bind (frPut [] _ (by simp)) (frSer_l0 S hk (by omega) (by omega) S.length 0 (by omega) _ ?_))
      · simp only [frame_Serialize.j0]
        rw [if_neg (by decide), w64 (by omega) (by omega)]
      · simp [Fm.cat4]

/-! ### capnpref01_SameWords -/
theorem refSameWords_l0 (a b : List Int) (hl : a.length = b.length) (ha : a.length ≤ 140737488355328) : ∀ d i : Nat, i + d = a.length → Ev (fun k => capnpref01_SameWords.l0 k a b (i : Int)) (decide (a.drop i = b.drop i)) := by
  intro d
  induction d with
  | zero =>
    intro i hi
    refine Ev.step (f := fun _ => some true) (fun k => ?_) ?_
    · simp only [capnpref01_SameWords.l0]; rw [if_neg (by omega)]
    · rw [List.drop_of_length_le (by omega), List.drop_of_length_le (by omega), decide_eq_true rfl]; exact Ev.now _
  | succ d ih =>
    intro i hi
    rw [drop_rd (show i < a.length by omega), drop_rd (show i < b.length by omega)]
    by_cases e : rd a (i : Int) = rd b (i : Int)
    · refine Ev.step (f := fun k => capnpref01_SameWords.l0 k a b ((i + 1 : Nat) : Int)) (fun k => ?_) ?_
      · simp only [capnpref01_SameWords.l0]
        rw [if_pos (by omega), if_pos (by omega), if_pos (by omega), if_pos e, w64 (by omega) (by omega), show (i : Int) + 1 = ((i + 1 : Nat) : Int) by omega]
      · have := ih (i + 1) (by omega)
        simpa [e] using this
    · refine Ev.step (f := fun _ => some false) (fun k => ?_) ?_
      · simp only [capnpref01_SameWords.l0]
        rw [if_pos (by omega), if_pos (by omega), if_pos (by omega), if_neg e]
      · have : decide (rd a (i : Int) :: a.drop (i + 1) = rd b (i : Int) :: b.drop (i + 1)) = false := by simp [e]
        rw [this]; exact Ev.now _
theorem refSameWords (a b : List Int) (ha : a.length ≤ 140737488355328) : Ev (fun k => capnpref01_SameWords.f k a b) (decide (a = b)) := by
  by_cases hl : a.length = b.length
  · refine Ev.congr (fun k => ?_) (refSameWords_l0 a b hl ha a.length 0 (by omega))
    unfold capnpref01_SameWords.f
    rw [if_pos (by omega)]; rfl
  · refine Ev.congr (f := fun _ => some (decide (a = b))) (fun k => ?_) (Ev.now _)
    unfold capnpref01_SameWords.f
    rw [if_neg (by omega), decide_eq_false (fun h => hl (by rw [h]))]

/-! ### capnpref04_Same -/
theorem ref04Same_l0 (a b : List (List Int)) (hl : a.length = b.length) (ha : a.length ≤ 1000000) (hs : ∀ s ∈ a, s.length ≤ 100000000) : ∀ d i : Nat, i + d = a.length → Ev (fun k => capnpref04_Same.l0 k a b (i : Int)) (decide (a.drop i = b.drop i)) := by
  intro d
  induction d with
  | zero =>
    intro i hi
    rw [List.drop_of_length_le (by omega), List.drop_of_length_le (by omega), decide_eq_true rfl]
    exact Ev.step (f := fun _ => some true) (fun k => by simp only [capnpref04_Same.l0]; rw [if_neg (by omega)]) (Ev.now _)
  | succ d ih =>
    intro i hi
    have h1 : i < a.length := by omega
    have h2 : i < b.length := by omega
    have hb := hs a[i] (List.getElem_mem h1)
    refine Ev.step (f := fun k => (capnpref01_SameWords.f k a[i] b[i]).bind fun t143 => if t143 = true then capnpref04_Same.l0 k a b ((i + 1 : Nat) : Int) else some false) (fun k => ?_) (Ev.bind (refSameWords a[i] b[i] (by omega)) ?_)
    · simp only [capnpref04_Same.l0]
      rw [if_pos (by omega), if_pos (by omega), if_pos (by omega), rd_seg h1, rd_seg h2, wrap_succ i (by omega)]
    · rw [List.drop_eq_getElem_cons h1, List.drop_eq_getElem_cons h2]
      by_cases he : a[i] = b[i]
      · have e : decide (a[i] :: a.drop (i + 1) = b[i] :: b.drop (i + 1)) = decide (a.drop (i + 1) = b.drop (i + 1)) := by rw [decide_eq_decide]; exact ⟨fun h => (List.cons.inj h).2, fun h => by rw [he, h]⟩
        rw [e]
        exact Ev.congr (fun k => if_pos (decide_eq_true he)) (ih (i + 1) (by omega))
      · rw [decide_eq_false (p := _ :: _ = _) (fun h => he (List.cons.inj h).1)]
        exact Ev.congr (fun k => if_neg (by simpa using he)) (Ev.now _)
theorem ref04Same (a b : List (List Int)) (ha : a.length ≤ 1000000) (hs : ∀ s ∈ a, s.length ≤ 100000000) : Ev (fun k => capnpref04_Same.f k a b) (decide (a = b)) := by
  by_cases hl : a.length = b.length
  · refine Ev.congr (fun k => ?_) (ref04Same_l0 a b hl ha hs a.length 0 (by omega))
    unfold capnpref04_Same.f
    rw [if_pos (by omega)]; rfl
  · refine Ev.congr (f := fun _ => some (decide (a = b))) (fun k => ?_) (Ev.now _)
    unfold capnpref04_Same.f
    rw [if_neg (by omega), decide_eq_false (fun h => hl (by rw [h]))]

/-! ### capnpref01_Same -/
theorem refSame_l0 (a b : List Int) (hl : a.length = b.length) (ha : a.length ≤ 140737488355328) : ∀ d i : Nat, i + d = a.length → Ev (fun k => capnpref01_Same.l0 k a b (i : Int)) (decide (a.drop i = b.drop i)) := by
  intro d
  induction d with
  | zero =>
    intro i hi
    refine Ev.step (f := fun _ => some true) (fun k => ?_) ?_
    · simp only [capnpref01_Same.l0]; rw [if_neg (by omega)]
    · rw [List.drop_of_length_le (by omega), List.drop_of_length_le (by omega), decide_eq_true rfl]; exact Ev.now _
  | succ d ih =>
    intro i hi
    rw [drop_rd (show i < a.length by omega), drop_rd (show i < b.length by omega)]
    by_cases e : rd a (i : Int) = rd b (i : Int)
    · refine Ev.step (f := fun k => capnpref01_Same.l0 k a b ((i + 1 : Nat) : Int)) (fun k => ?_) ?_
      · simp only [capnpref01_Same.l0]
        rw [if_pos (by omega), if_pos (by omega), if_pos (by omega), if_pos e, w64 (by omega) (by omega), show (i : Int) + 1 = ((i + 1 : Nat) : Int) by omega]
      · have := ih (i + 1) (by omega)
        simpa [e] using this
    · refine Ev.step (f := fun _ => some false) (fun k => ?_) ?_
      · simp only [capnpref01_Same.l0]
        rw [if_pos (by omega), if_pos (by omega), if_pos (by omega), if_neg e]
      · have : decide (rd a (i : Int) :: a.drop (i + 1) = rd b (i : Int) :: b.drop (i + 1)) = false := by simp [e]
        rw [this]; exact Ev.now _
theorem refSame (a b : List Int) (ha : a.length ≤ 140737488355328) : Ev (fun k => capnpref01_Same.f k a b) (decide (a = b)) := by
  by_cases hl : a.length = b.length
  · refine Ev.congr (fun k => ?_) (refSame_l0 a b hl ha a.length 0 (by omega))
    unfold capnpref01_Same.f
    rw [if_pos (by omega)]; rfl
  · refine Ev.congr (f := fun _ => some (decide (a = b))) (fun k => ?_) (Ev.now _)
    unfold capnpref01_Same.f
    rw [if_neg (by omega), decide_eq_false (fun h => hl (by rw [h]))]

/-! ### capnplaw04_awake -/
theorem awake04 : Ev (fun k => capnplaw04_awake.f k) true := Ev.of (fun k => capnplaw04_awake.mono k) (k := 60) (by kernel_rfl)

/-! ### capnpref04_Few -/
def fewS (S : List (List Int)) : Bool := S.all (fun s => decide (s.length ≤ 300)) && decide (S.length ≤ 20)
theorem ref04Few_l0 (S : List (List Int)) (hn : S.length ≤ 140737488355328) : ∀ d i : Nat, i + d = S.length → Ev (fun k => capnpref04_Few.l0 k S (i : Int)) ((S.drop i).all (fun s => decide (s.length ≤ 300)) && decide (S.length ≤ 20)) := by
  intro d
  induction d with
  | zero =>
    intro i hi
    rw [List.drop_of_length_le (by omega), List.all_nil, Bool.true_and]
    refine Ev.step (f := fun _ => some (decide (S.length ≤ 20))) (fun k => ?_) (Ev.now _)
    simp only [capnpref04_Few.l0]
    rw [if_neg (by omega)]
    congr 1
    rw [decide_eq_decide]; omega
  | succ d ih =>
    intro i hi
    have h1 : i < S.length := by omega
    rw [List.drop_eq_getElem_cons h1, List.all_cons]
    by_cases hs : S[i].length ≤ 300
    · rw [decide_eq_true hs, Bool.true_and]
      refine Ev.step (fun k => ?_) (ih (i + 1) (by omega))
      simp only [capnpref04_Few.l0]
      rw [if_pos (by omega), if_pos (by omega), rd_seg h1, if_neg (by omega), wrap_succ i (by omega)]
    · rw [decide_eq_false hs, Bool.false_and, Bool.false_and]
      refine Ev.step (f := fun _ => some false) (fun k => ?_) (Ev.now _)
      simp only [capnpref04_Few.l0]
      rw [if_pos (by omega), if_pos (by omega), rd_seg h1, if_pos (by omega)]
theorem ref04Few (S : List (List Int)) (hn : S.length ≤ 140737488355328) : Ev (fun k => capnpref04_Few.f k S) (fewS S) := by
  have := ref04Few_l0 S hn S.length 0 (by omega)
  rw [List.drop_zero] at this
  exact this
theorem fewS_short {S : List (List Int)} (h : fewS S = true) (hW : ∀ s ∈ S, IsW s) : Short S ∧ S.length ≤ 20 ∧ ∀ s ∈ S, s.length ≤ 300 := by
  unfold fewS at h
  simp only [Bool.and_eq_true, decide_eq_true_eq, List.all_eq_true] at h
  exact ⟨fun s hs => ⟨hW s hs, by have := h.1 s hs; omega⟩, h.2, h.1⟩

/-! ### capnpref04_TableBytes -/
theorem ref04Table (n : Nat) (hn : n ≤ 1000000) : capnpref04_TableBytes.f (n : Int) = some ((tbS n : Nat) : Int) := by
  unfold capnpref04_TableBytes.f Fm.tbS
  have e1 : wrap64 (4 * (n : Int)) = 4 * (n : Int) := w64 (by omega) (by omega)
  rw [Int.tmod_eq_emod_of_nonneg (by omega), e1]
  by_cases h : (n : Int) % 2 = 0
  · rw [if_pos h, w64 (by omega) (by omega)]; congr 1; omega
  · rw [if_neg h, w64 (by omega) (by omega)]; congr 1; omega

/-! ### capnpref04_entry -/
theorem ref04Entry {l : List Int} {i : Nat} (hB : IsB l) (h : 4 * (i + 1) ≤ l.length) (hl : l.length ≤ 1000000) : capnpref04_entry.f l (i : Int) = some (num4 l i) := by
  have b0 := rd_B hB ((4 * i : Nat) : Int)
  have b1 := rd_B hB ((4 * i + 1 : Nat) : Int)
  have b2 := rd_B hB ((4 * i + 2 : Nat) : Int)
  have b3 := rd_B hB ((4 * i + 3 : Nat) : Int)
  unfold capnpref04_entry.f
  have e0 : wrap64 (4 * (i : Int)) = ((4 * i : Nat) : Int) := by rw [w64 (by omega) (by omega)]; omega
  rw [e0]
  have e1 : wrap64 (((4 * i : Nat) : Int) + 1) = ((4 * i + 1 : Nat) : Int) := by rw [w64 (by omega) (by omega)]; omega
  have e2 : wrap64 (((4 * i : Nat) : Int) + 2) = ((4 * i + 2 : Nat) : Int) := by rw [w64 (by omega) (by omega)]; omega
  have e3 : wrap64 (((4 * i : Nat) : Int) + 3) = ((4 * i + 3 : Nat) : Int) := by rw [w64 (by omega) (by omega)]; omega
  rw [e1, e2, e3, if_pos (by omega), if_pos (by omega), if_pos (by omega), if_pos (by omega), if_pos (by omega), if_pos (by omega), if_pos (by omega), if_pos (by omega)]
  unfold Fm.num4
  generalize rd l ((4 * i : Nat) : Int) = a at b0 ⊢
  generalize rd l ((4 * i + 1 : Nat) : Int) = b at b1 ⊢
  generalize rd l ((4 * i + 2 : Nat) : Int) = c at b2 ⊢
  generalize rd l ((4 * i + 3 : Nat) : Int) = d at b3 ⊢
  clear e0 e1 e2 e3
  have wa : wrap64 a = a := w64 (by omega) (by omega)
  have wb : wrap64 b = b := w64 (by omega) (by omega)
  have wc : wrap64 c = c := w64 (by omega) (by omega)
  have wd : wrap64 d = d := w64 (by omega) (by omega)
  rw [wa, wb, wc, wd]
  clear wa wb wc wd
  rw [show wrap64 (256 * b) = 256 * b from w64 (by omega) (by omega), show wrap64 (65536 * c) = 65536 * c from w64 (by omega) (by omega), show wrap64 (16777216 * d) = 16777216 * d from w64 (by omega) (by omega)]
  rw [show wrap64 (a + 256 * b) = a + 256 * b from w64 (by omega) (by omega), show wrap64 (a + 256 * b + 65536 * c) = a + 256 * b + 65536 * c from w64 (by omega) (by omega), w64 (by omega) (by omega)]

/-! ### capnpref01_Get -/
theorem refGet_step (b : List Int) (i : Nat) (hb : b.length ≤ 140737488351232) (hi : i < b.length / 8) (j : Nat) (hj : j < 8) (acc : Int) (ha0 : 0 ≤ acc) (ha1 : acc < 72057594037927936) (hx : 0 ≤ rd b ((8 * i + j : Nat) : Int) ∧ rd b ((8 * i + j : Nat) : Int) < 256) (k : Nat) : capnpref01_Get.l0 (k + 1) b (i : Int) acc (((j + 1 : Nat) : Int) - 1) = capnpref01_Get.l0 k b (i : Int) (rd b ((8 * i + j : Nat) : Int) + 256 * acc) ((j : Int) - 1) := by
  have e0 : wrap64 (8 * (i : Int)) = 8 * (i : Int) := w64 (by omega) (by omega)
  have e1 : wrap64 (wrap64 (8 * (i : Int)) + (((j + 1 : Nat) : Int) - 1)) = ((8 * i + j : Nat) : Int) := by rw [e0, w64 (by omega) (by omega)]; omega
  simp only [capnpref01_Get.l0]
  rw [if_pos (by omega), e1, if_pos (by omega), if_pos (by omega), wu (x := acc * 256) (by omega) (by omega), wu (x := rd b _) (by omega) (by omega), wu (by omega) (by omega), w64 (by omega) (by omega), Int.mul_comm acc, Int.add_comm (256 * acc), show ((j + 1 : Nat) : Int) - 1 - 1 = (j : Int) - 1 by omega]
theorem chunk_rd' {b : List Int} {i : Nat} (hi : i < b.length / 8) {j : Nat} (hj : j < 8) : rd (chunk b i) (j : Int) = rd b ((8 * i + j : Nat) : Int) := by
  have hl := chunk_length hi
  rw [rd_lt (by omega), rd_lt (by omega)]
  simp [chunk]
theorem pow256_le {n : Nat} (h : n ≤ 7) : (256 : Int) ^ n ≤ 72057594037927936 := by
  have h1 : (256 : Nat) ^ n ≤ 256 ^ 7 := Nat.pow_le_pow_right (by decide) h
  have h2 : ((256 ^ n : Nat) : Int) ≤ ((256 ^ 7 : Nat) : Int) := Int.ofNat_le.mpr h1
  rw [Int.natCast_pow] at h2
  exact h2
theorem refGet_l0 (b : List Int) (hB : IsB b) (i : Nat) (hb : b.length ≤ 140737488351232) (hi : i < b.length / 8) : ∀ j : Nat, j ≤ 8 → ∀ acc : Int, acc = val ((chunk b i).drop j) → Ev (fun k => capnpref01_Get.l0 k b (i : Int) acc ((j : Int) - 1)) (getS b i, true) := by
  intro j
  induction j with
  | zero =>
    intro hj acc h
    refine Ev.step (f := fun _ => some (acc, true)) (fun k => ?_) ?_
    · simp only [capnpref01_Get.l0]; rw [if_neg (by omega)]
    · rw [h]; exact Ev.now _
  | succ j ih =>
    intro hj acc h
    have hC := chunk_B hB i
    have hl := chunk_length hi
    have hj8 : j < 8 := by omega
    have hjl : j < (chunk b i).length := by omega
    have hd : ((chunk b i).drop (j + 1)).length ≤ 7 := by rw [List.length_drop]; omega
    have hacc0 := val_nonneg _ (hC.drop (j + 1))
    have hacc1 := val_lt _ (hC.drop (j + 1))
    rw [← h] at hacc0 hacc1
    have hacc2 := Int.lt_of_lt_of_le hacc1 (pow256_le hd)
    clear hacc1
    refine Ev.step (refGet_step b i hb hi j hj8 acc hacc0 hacc2 (rd_B hB _)) (ih (by omega) _ ?_)
    rw [drop_rd hjl, chunk_rd' hi hj8, h]; rfl
theorem refGet_yes (b : List Int) (hB : IsB b) (i : Nat) (hb : b.length ≤ 140737488351232) (hi : i < b.length / 8) : Ev (fun k => capnpref01_Get.f k b (i : Int)) (getS b i, true) := by
  refine Ev.congr (f := fun k => capnpref01_Get.j0 k b (i : Int) false) (fun k => ?_) (Ev.step (f := fun k => capnpref01_Get.l0 k b (i : Int) 0 (((8 : Nat) : Int) - 1)) (fun k => ?_) (refGet_l0 b hB i hb hi 8 (by omega) 0 ?_))
  · unfold capnpref01_Get.f
    rw [if_neg (by omega), w64 (x := (b.length : Int) / 8) (by omega) (by omega), w64 (by omega) (by omega), decide_eq_false (by omega)]
  · simp only [capnpref01_Get.j0]; rfl
  · rw [List.drop_of_length_le (by rw [chunk_length hi]; omega)]; rfl
theorem refGet_no (b : List Int) (i : Int) (hb : b.length ≤ 140737488351232) (hi : i < 0 ∨ (b.length : Int) / 8 ≤ i) : Ev (fun k => capnpref01_Get.f k b i) (0, false) := by
  refine Ev.congr (f := fun k => capnpref01_Get.j0 k b i true) (fun k => ?_) (Ev.step (f := fun _ => some (0, false)) (fun k => ?_) (Ev.now _))
  · unfold capnpref01_Get.f
    by_cases h : i < 0
    · rw [if_pos h]
    · rw [if_neg h, w64 (x := (b.length : Int) / 8) (by omega) (by omega), w64 (by omega) (by omega), decide_eq_true (by omega)]
  · simp only [capnpref01_Get.j0]; rfl

/-! ### capnpref01_Words -/
theorem refWords_l0 (b : List Int) (hB : IsB b) (hb : b.length ≤ 140737488351232) : ∀ d i : Nat, i + d = b.length / 8 → ∀ acc : List Int, acc = (List.range i).map (getS b) → Ev (fun k => capnpref01_Words.l0 k b acc (i : Int)) (wordsS b, true) := by
  intro d
  induction d with
  | zero =>
    intro i hi acc h
    refine Ev.step (f := fun _ => some (acc, true)) (fun k => ?_) ?_
    · simp only [capnpref01_Words.l0]; rw [w64 (by omega) (by omega), if_neg (by omega)]
    · rw [h, show i = b.length / 8 by omega]; exact Ev.now _
  | succ d ih =>
    intro i hi acc h
    have hl : acc.length = i := by rw [h]; simp
    refine Ev.step (f := fun k => (capnpref01_Get.f k b (i : Int)).bind fun t => capnpref01_Words.l0 k b (acc ++ [t.1]) ((i + 1 : Nat) : Int)) (fun k => ?_) (Ev.bind (refGet_yes b hB i hb (by omega)) (ih (i + 1) (by omega) _ ?_))
    · simp only [capnpref01_Words.l0]
      rw [w64 (x := (b.length : Int) / 8) (by omega) (by omega), if_pos (by omega), w64 (by omega) (by omega), show (i : Int) + 1 = ((i + 1 : Nat) : Int) by omega]
      simp only [if_pos (show acc.length < 17592186044416 by omega)]
    · rw [h, List.range_succ, List.map_append]; rfl
theorem refWords_yes (b : List Int) (hB : IsB b) (hb : b.length ≤ 140737488351232) (h8 : b.length % 8 = 0) : Ev (fun k => capnpref01_Words.f k b) (wordsS b, true) := by
  refine Ev.congr (fun k => ?_) (refWords_l0 b hB hb (b.length / 8) 0 (by omega) [] rfl)
  unfold capnpref01_Words.f
  rw [if_pos (by omega)]; rfl
theorem refWords_no (b : List Int) (h8 : b.length % 8 ≠ 0) : Ev (fun k => capnpref01_Words.f k b) ([], false) := by
  refine Ev.congr (fun k => ?_) (Ev.now _)
  unfold capnpref01_Words.f
  rw [if_neg (by omega)]

/-! ### capnpref04_Parse -/
def ansP : Option (List (List Int)) → List (List Int) × Int
  | some T => (T, 0)
  | none => ([], 1)
theorem ref04Parse_l0 {l : List Int} (hB : IsB l) (hl : l.length ≤ 1000000) (N : Nat) (hN : N ≤ 512) (h4 : 4 * (N + 1) ≤ l.length) : ∀ (d i at_ : Nat) (S : List (List Int)), d + i = N → at_ ≤ l.length → S.length ≤ i → Ev (fun k => capnpref04_Parse.l0 k l (N : Int) S (at_ : Int) ((i + 1 : Nat) : Int)) (ansP (parseL l d i (l.drop at_) S))
  | 0, i, at_, S, hi, ha, hS => by
    simp only [Fm.parseL, List.length_drop]
    by_cases h0 : at_ = l.length
    · rw [if_pos (by omega)]
      refine Ev.step (f := fun _ => some (S, 0)) (fun k => ?_) (Ev.now _)
      simp only [capnpref04_Parse.l0]
      rw [if_neg (by omega), if_pos (by omega)]
    · rw [if_neg (by omega)]
      refine Ev.step (f := fun _ => some ([], 1)) (fun k => ?_) (Ev.now _)
      simp only [capnpref04_Parse.l0]
      rw [if_neg (by omega), if_neg (by omega)]
  | d + 1, i, at_, S, hi, ha, hS => by
    have hr := num4_range hB (i + 1)
    have he := ref04Entry (i := i + 1) hB (by omega) hl
    simp only [Fm.parseL, List.length_drop]
    generalize hs : num4 l (i + 1) = s at hr he ⊢
    have e8 : wrap64 (8 * s) = 8 * s := w64 (by omega) (by omega)
    have ea : wrap64 ((at_ : Int) + 8 * s) = (at_ : Int) + 8 * s := w64 (by omega) (by omega)
    by_cases c1 : s ≥ 536870912
    · rw [if_neg (by omega)]
      refine Ev.step (f := fun _ => some ([], 1)) (fun k => ?_) (Ev.now _)
      simp only [capnpref04_Parse.l0]
      rw [if_pos (by omega), he, Option.bind_some, if_pos c1]
    · by_cases c2 : (at_ : Int) + 8 * s > (l.length : Int)
      · rw [if_neg (by omega)]
        refine Ev.step (f := fun _ => some ([], 1)) (fun k => ?_) (Ev.now _)
        simp only [capnpref04_Parse.l0]
        rw [if_pos (by omega), he, Option.bind_some, if_neg c1, e8, ea, if_pos c2]
      · rw [if_pos (by omega)]
        obtain ⟨m, hm⟩ : ∃ m : Nat, s = (m : Int) := ⟨s.toNat, by omega⟩
        subst hm
        have eT : ((at_ : Int) + 8 * (m : Int)).toNat = at_ + 8 * m := by omega
        have e8m : (8 * (m : Int)).toNat = 8 * m := by omega
        have hcut : (l.take (at_ + 8 * m)).drop at_ = (l.drop at_).take (8 * m) := by rw [List.drop_take, show at_ + 8 * m - at_ = 8 * m by omega]
        have htl : ((l.drop at_).take (8 * m)).length = 8 * m := by rw [List.length_take, List.length_drop]; omega
        rw [e8m, List.drop_drop]
        have ih := ref04Parse_l0 hB hl N hN h4 d (i + 1) (at_ + 8 * m) (S ++ [wordsS ((l.drop at_).take (8 * m))]) (by omega) (by omega) (by rw [List.length_append, List.length_singleton]; omega)
        refine Ev.step (f := fun k => (capnpref01_Words.f k ((l.drop at_).take (8 * m))).bind fun bt253 => if S.length < 5864062014805 then capnpref04_Parse.l0 k l (N : Int) (S ++ [bt253.1]) ((at_ + 8 * m : Nat) : Int) ((i + 1 + 1 : Nat) : Int) else none) (fun k => ?_) (Ev.bind (refWords_yes _ ((hB.drop _).take _) (by omega) (by omega)) (Ev.congr (fun k => if_pos (by omega)) ih))
        simp only [capnpref04_Parse.l0]
        rw [if_pos (by omega), he, Option.bind_some, if_neg c1, e8, ea, if_neg c2, if_pos (by omega), if_pos (by omega), if_pos (by omega), eT, Int.toNat_natCast, hcut, wrap_succ (i + 1) (by omega), show (at_ : Int) + 8 * (m : Int) = ((at_ + 8 * m : Nat) : Int) by omega]
theorem pad_odd {l : List Int} {N : Nat} (h : N % 2 = 1) : padS l N = true := by
  unfold Fm.padS Fm.tbS
  rw [List.drop_of_length_le (by rw [List.length_take]; omega)]
  rfl
theorem pad_even {l : List Int} (hB : IsB l) {N : Nat} (h : N % 2 = 0) (hl : 4 * (N + 2) ≤ l.length) : padS l N = decide (num4 l (N + 1) = 0) := by
  unfold Fm.padS
  have e : tbS N = 4 * (N + 1) + 4 := by unfold Fm.tbS; omega
  have b0 := rd_B hB ((4 * (N + 1) : Nat) : Int)
  have b1 := rd_B hB ((4 * (N + 1) + 1 : Nat) : Int)
  have b2 := rd_B hB ((4 * (N + 1) + 2 : Nat) : Int)
  have b3 := rd_B hB ((4 * (N + 1) + 3 : Nat) : Int)
  rw [e, List.drop_take, show 4 * (N + 1) + 4 - 4 * (N + 1) = 4 by omega, drop_rd (show 4 * (N + 1) < l.length by omega), drop_rd (show 4 * (N + 1) + 1 < l.length by omega), drop_rd (show 4 * (N + 1) + 1 + 1 < l.length by omega), drop_rd (show 4 * (N + 1) + 1 + 1 + 1 < l.length by omega)]
  simp only [List.take_succ_cons, List.take_zero, List.all_cons, List.all_nil, Bool.and_true, Nat.add_assoc, Nat.reduceAdd]
  unfold Fm.num4
  generalize rd l ((4 * (N + 1) : Nat) : Int) = a at b0 ⊢
  generalize rd l ((4 * (N + 1) + 1 : Nat) : Int) = b at b1 ⊢
  generalize rd l ((4 * (N + 1) + 2 : Nat) : Int) = c at b2 ⊢
  generalize rd l ((4 * (N + 1) + 3 : Nat) : Int) = d at b3 ⊢
  by_cases h : a + 256 * b + 65536 * c + 16777216 * d = 0
  · rw [decide_eq_true h, show a = 0 by omega, show b = 0 by omega, show c = 0 by omega, show d = 0 by omega]; rfl
  · rw [decide_eq_false h]
    by_cases ha : a = 0
    · by_cases hb : b = 0
      · by_cases hc : c = 0
        · have hd : d ≠ 0 := by omega
          simp [hd]
        · simp [hc]
      · simp [hb]
    · simp [ha]
theorem ref04Parse {l : List Int} (hB : IsB l) (hl : l.length ≤ 1000000) : Ev (fun k => capnpref04_Parse.f k l) (parseS l) := by
  unfold capnpref04_Parse.f Fm.parseS
  by_cases g1 : l.length < 4
  · rw [if_pos g1]; exact Ev.congr (fun k => if_pos (by omega)) (Ev.now _)
  rw [if_neg g1]
  have hr := num4_range hB 0
  obtain ⟨N, hN⟩ : ∃ N : Nat, N = (num4 l 0 + 1).toNat := ⟨_, rfl⟩
  rw [← hN]
  have he : capnpref04_entry.f l 0 = some (num4 l 0) := ref04Entry (i := 0) hB (by omega) hl
  have ew : wrap64 (num4 l 0 + 1) = (N : Int) := by rw [w64 (by omega) (by omega)]; omega
  have no : Ev (fun k => capnpref04_Parse.j0 k l (N : Int) true) ([], 1) := Ev.step (f := fun _ => some ([], 1)) (fun k => by simp only [capnpref04_Parse.j0, if_true]) (Ev.now _)
  refine Ev.congr (fun k => (if_neg (by omega)).trans (by rw [he, Option.bind_some, ew])) ?_
  by_cases g2 : 512 < N
  · rw [if_pos g2]; exact Ev.congr (fun k => if_pos (by omega)) no
  rw [if_neg g2]
  have ht := tbS_le N
  have htb := ref04Table N (by omega)
  refine Ev.congr (fun k => (if_neg (by omega)).trans (by rw [htb, Option.bind_some])) ?_
  by_cases g3 : l.length < tbS N
  · rw [if_pos g3, decide_eq_true (by omega)]; exact no
  rw [if_neg g3, decide_eq_false (by omega)]
  have yes : Ev (fun k => capnpref04_Parse.j1 k l (N : Int) false) (ansP (parseL l N 0 (l.drop (tbS N)) [])) := by
    refine Ev.step (fun k => ?_) (ref04Parse_l0 hB hl N (by omega) (by omega) N 0 (tbS N) [] (by omega) (by omega) (Nat.zero_le _))
    simp only [capnpref04_Parse.j1]
    rw [if_neg (by decide), htb, Option.bind_some]
    rfl
  have no1 : Ev (fun k => capnpref04_Parse.j1 k l (N : Int) true) ([], 1) := Ev.step (f := fun _ => some ([], 1)) (fun k => by simp only [capnpref04_Parse.j1, if_true]) (Ev.now _)
  show Ev _ (if padS l N = true then ansP (parseL l N 0 (l.drop (tbS N)) []) else ([], 1))
  by_cases h2 : N % 2 = 0
  · have ee := ref04Entry (i := N + 1) hB (by unfold Fm.tbS at g3; omega) hl
    rw [pad_even hB h2 (by unfold Fm.tbS at g3; omega)]
    have e2 : wrap64 ((N : Int) + 1) = ((N + 1 : Nat) : Int) := wrap_succ N (by omega)
    by_cases hz : num4 l (N + 1) = 0
    · rw [if_pos (decide_eq_true hz)]
      refine Ev.step (fun k => ?_) yes
      simp only [capnpref04_Parse.j0]
      rw [if_neg (by decide), if_pos (by rw [Int.tmod_eq_emod_of_nonneg (by omega)]; omega), e2, ee, Option.bind_some, hz]
      rfl
    · rw [if_neg (by simpa using hz)]
      refine Ev.step (fun k => ?_) no1
      simp only [capnpref04_Parse.j0]
      rw [if_neg (by decide), if_pos (by rw [Int.tmod_eq_emod_of_nonneg (by omega)]; omega), e2, ee, Option.bind_some, bne_iff_ne.mpr hz]
  · rw [pad_odd (by omega), if_pos rfl]
    refine Ev.step (fun k => ?_) yes
    simp only [capnpref04_Parse.j0]
    rw [if_neg (by decide), if_neg (by rw [Int.tmod_eq_emod_of_nonneg (by omega)]; omega)]

/-! ### capnpref04_put -/
theorem ref04Put (out : List Int) (a : Int) (a0 : 0 ≤ a) (a1 : a < 4294967296) (ho : out.length ≤ 100000000000) : capnpref04_put.f out a = some (out ++ bs 4 a) := by
  unfold capnpref04_put.f
  rw [Option.bind_some, if_pos (by simp only [List.length_cons, List.length_nil]; omega)]
  congr 2
  have t1 : Int.tdiv a 256 = a / 256 := Int.tdiv_eq_ediv_of_nonneg a0
  have t2 : Int.tdiv a 65536 = a / 65536 := Int.tdiv_eq_ediv_of_nonneg a0
  have t3 : Int.tdiv a 16777216 = a / 16777216 := Int.tdiv_eq_ediv_of_nonneg a0
  rw [t1, t2, t3, show wrap64 (a / 256) = a / 256 from w64 (by omega) (by omega), show wrap64 (a / 65536) = a / 65536 from w64 (by omega) (by omega), show wrap64 (a / 16777216) = a / 16777216 from w64 (by omega) (by omega)]
  rw [Int.tmod_eq_emod_of_nonneg a0, Int.tmod_eq_emod_of_nonneg (show 0 ≤ a / 256 by omega), Int.tmod_eq_emod_of_nonneg (show 0 ≤ a / 65536 by omega)]
  simp only [bs]
  congr 1
  · omega
  congr 1
  · omega
  congr 1
  · omega
  congr 1
  omega

/-! ### capnpref01_Bytes -/
theorem refBytes_l1 (x0 : List Int) (x4 r) : ∀ d j : Nat, j + d = 8 → ∀ (x3 : List Int) (w : Int), 0 ≤ w → w < 18446744073709551616 → x3.length + d < 140737488355328 → Ev (fun k => capnpref01_Bytes.l0 k x0 (x3 ++ bs d w) (wrap64 (x4 + 1))) r → Ev (fun k => capnpref01_Bytes.l1 k x0 x3 x4 w (j : Int)) r := by
  intro d
  induction d with
  | zero =>
    intro j hj x3 w h0 h1 hl h
    obtain rfl : j = 8 := by omega
    refine Ev.step (fun k => ?_) h
    simp only [capnpref01_Bytes.l1]
    rw [if_neg (by omega)]
    simp [bs]
  | succ d ih =>
    intro j hj x3 w h0 h1 hl h
    refine Ev.step (f := fun k => capnpref01_Bytes.l1 k x0 (x3 ++ [w % 256]) x4 (w / 256) ((j + 1 : Nat) : Int)) (fun k => ?_) (ih (j + 1) (by omega) _ _ (by omega) (by omega) (by simp; omega) ?_)
    · simp only [capnpref01_Bytes.l1]
      rw [if_pos (by omega), if_pos (by omega), w64 (by omega) (by omega), Int.tmod_eq_emod_of_nonneg h0, Int.tdiv_eq_ediv_of_nonneg h0, wu (by omega) (by omega), show w % 256 % 256 = w % 256 by omega, show (j : Int) + 1 = ((j + 1 : Nat) : Int) by omega]
    · simpa [bs] using h
theorem refBytes_l0 (x0 : List Int) (hW : IsW x0) (hx : x0.length * 8 < 140737488355328) : ∀ d i : Nat, i + d = x0.length → ∀ x3 : List Int, x3 = bytesS (x0.take i) → Ev (fun k => capnpref01_Bytes.l0 k x0 x3 (i : Int)) (bytesS x0) := by
  intro d
  induction d with
  | zero =>
    intro i hi x3 h
    refine Ev.step (f := fun _ => some x3) (fun k => ?_) ?_
    · simp only [capnpref01_Bytes.l0]; rw [if_neg (by omega)]
    · rw [h, List.take_of_length_le (by omega)]; exact Ev.now _
  | succ d ih =>
    intro i hi x3 h
    have hr := rd_W hW (i : Int)
    refine Ev.step (f := fun k => capnpref01_Bytes.l1 k x0 x3 (i : Int) (rd x0 (i : Int)) ((0 : Nat) : Int)) (fun k => ?_) (refBytes_l1 x0 _ _ 8 0 rfl _ _ hr.1 hr.2 ?_ ?_)
    · simp only [capnpref01_Bytes.l0]; rw [if_pos (by omega), if_pos (by omega)]; rfl
    · rw [h, bytesS_length, List.length_take]; omega
    · rw [w64 (by omega) (by omega), show (i : Int) + 1 = ((i + 1 : Nat) : Int) by omega]
      refine ih (i + 1) (by omega) _ ?_
      rw [take_rd (by omega), bytesS_append, h]; simp [bytesS]
theorem refBytes (l : List Int) (hW : IsW l) (hx : l.length * 8 < 140737488355328) : Ev (fun k => capnpref01_Bytes.f k l) (bytesS l) :=
  refBytes_l0 l hW hx l.length 0 (by omega) [] rfl

/-! ### capnpref04_Serialize -/
theorem ref04Ser_l1 (S : List (List Int)) (hk : Short S) (hn : S.length ≤ 512) : ∀ (d i : Nat), i + d = S.length → ∀ x4 : List Int, x4.length + 8000000 * d ≤ 10000000000 → Ev (fun k => capnpref04_Serialize.l1 k S x4 (i : Int)) (x4 ++ bodyS (S.drop i), 0)
  | 0, i, hi, x4, hx => by
    rw [List.drop_of_length_le (by omega), show bodyS [] = [] from rfl, List.append_nil]
    exact Ev.step (f := fun _ => some (x4, 0)) (fun k => by simp only [capnpref04_Serialize.l1]; rw [if_neg (by omega)]) (Ev.now _)
  | d + 1, i, hi, x4, hx => by
    have hlt : i < S.length := by omega
    have hs := hk S[i] (List.getElem_mem hlt)
    have hb := bytesS_length S[i]
    have ih := ref04Ser_l1 S hk hn d (i + 1) (by omega) (x4 ++ bytesS S[i]) (by rw [List.length_append]; omega)
    rw [List.append_assoc, ← bodyS_cons, ← List.drop_eq_getElem_cons hlt] at ih
    refine Ev.step (f := fun k => (capnpref01_Bytes.f k S[i]).bind fun t133 => if x4.length + t133.length < 140737488355328 then capnpref04_Serialize.l1 k S (x4 ++ t133) ((i + 1 : Nat) : Int) else none) (fun k => ?_) (Ev.bind (refBytes S[i] hs.1 (by omega)) (Ev.congr (fun k => if_pos (by omega)) ih))
    simp only [capnpref04_Serialize.l1]
    rw [if_pos (by omega), if_pos (by omega), rd_seg hlt, wrap_succ i (by omega)]
theorem ref04Ser_l0 (S : List (List Int)) (hk : Short S) (h1 : 1 ≤ S.length) (hn : S.length ≤ 512) : ∀ (d i : Nat), i + d = S.length → ∀ x4 : List Int, x4 = cat4 (((S.length : Int) - 1) :: (S.take i).map fun s => (s.length : Int)) → Ev (fun k => capnpref04_Serialize.l0 k S x4 (i : Int)) (serF S, 0)
  | 0, i, hi, x4, hx => by
    have ht := tbS_le S.length
    have hi2 : i = S.length := by omega
    rw [hi2, List.take_length] at hx
    have hx2 : x4 = cat4 (lensS S) := hx
    have hl : x4.length = 4 * (S.length + 1) := by rw [hx2, cat4_length, lensS_length]
    have fin : Ev (fun k => capnpref04_Serialize.j2 k S (x4 ++ List.replicate (tbS S.length - 4 * (S.length + 1)) 0)) (serF S, 0) := by
      have := ref04Ser_l1 S hk hn S.length 0 (by omega) (x4 ++ List.replicate (tbS S.length - 4 * (S.length + 1)) 0) (by rw [List.length_append, List.length_replicate]; omega)
      rw [List.drop_zero, List.append_assoc, hx2] at this
      rw [hx2]
      exact Ev.step (fun k => by simp only [capnpref04_Serialize.j2]; rfl) this
    by_cases h2 : S.length % 2 = 0
    · have e : tbS S.length - 4 * (S.length + 1) = 4 := by unfold Fm.tbS; omega
      rw [e] at fin
      refine Ev.step (fun k => ?_) fin
      simp only [capnpref04_Serialize.l0]
      rw [if_neg (by omega), if_pos (by omega), ref04Put x4 0 (by decide) (by decide) (by omega), Option.bind_some]
      rfl
    · have e : tbS S.length - 4 * (S.length + 1) = 0 := by unfold Fm.tbS; omega
      rw [e, List.replicate_zero, List.append_nil] at fin
      refine Ev.step (fun k => ?_) fin
      simp only [capnpref04_Serialize.l0]
      rw [if_neg (by omega), if_neg (by omega)]
  | d + 1, i, hi, x4, hx => by
    have hlt : i < S.length := by omega
    have hs := hk S[i] (List.getElem_mem hlt)
    have hl : x4.length = 4 * (i + 1) := by rw [hx, cat4_length, List.length_cons, List.length_map, List.length_take]; omega
    have ih := ref04Ser_l0 S hk h1 hn d (i + 1) (by omega) (x4 ++ bs 4 (S[i].length : Int)) (by
      have e : S.take (i + 1) = S.take i ++ [S[i]] := by rw [List.take_append_getElem hlt]
      rw [hx, e, List.map_append, ← List.cons_append]; exact (cat4_snoc _ _).symm)
    refine Ev.step (fun k => ?_) ih
    simp only [capnpref04_Serialize.l0]
    rw [if_pos (by omega), if_pos (by omega), rd_seg hlt, ref04Put x4 _ (by omega) (by omega) (by omega), Option.bind_some, wrap_succ i (by omega)]
theorem ref04Ser (S : List (List Int)) (hk : Short S) (hn : S.length ≤ 1000000) : Ev (fun k => capnpref04_Serialize.f k S) (serS S) := by
  unfold capnpref04_Serialize.f serS
  have no : Ev (fun k => capnpref04_Serialize.j0 k S true) ([], 1) := Ev.step (f := fun _ => some ([], 1)) (fun k => by simp only [capnpref04_Serialize.j0, if_true]) (Ev.now _)
  by_cases h1 : (S.length : Int) < 1
  · rw [if_neg (by omega)]
    exact Ev.congr (fun k => if_pos h1) no
  · refine Ev.congr (fun k => if_neg h1) ?_
    by_cases h2 : (S.length : Int) > 512
    · rw [if_neg (by omega), decide_eq_true h2]; exact no
    · rw [if_pos ⟨by omega, by omega⟩, decide_eq_false h2]
      refine Ev.step (fun k => ?_) (ref04Ser_l0 S hk (by omega) (by omega) S.length 0 (by omega) _ rfl)
      simp only [capnpref04_Serialize.j0]
      rw [if_neg (by decide), w64 (by omega) (by omega), ref04Put [] _ (by omega) (by omega) (by simp), Option.bind_some]
      simp [Fm.cat4]
end Go.Proofs.Ytcdkgccmmfjnhaa.QFrameMatchesReference
