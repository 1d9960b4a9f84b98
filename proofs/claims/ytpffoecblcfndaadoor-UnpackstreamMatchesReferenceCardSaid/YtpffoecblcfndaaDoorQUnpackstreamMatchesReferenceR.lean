/- The printed functions of the law UnpackstreamMatchesReference hold what their plain specifications say. -/
import Derived.Test.YtpffoecblcfndaaDoorPUnpackstreamMatchesReferencex0R
import Derived.Test.YtpffoecblcfndaaDoorPUnpackstreamMatchesReferencex1R
import Derived.Test.YtpffoecblcfndaaDoorPUnpackstreamMatchesReferencex2R
import Derived.Test.YtpffoecblcfndaaDoorPUnpackstreamMatchesReferencex3R
import Derived.Test.YtpffoecblcfndaaDoorPUnpackstreamMatchesReferencex4R
import Derived.Test.YtpffoecblcfndaaDoorPUnpackstreamMatchesReferencex5R
import Derived.Test.YtpffoecblcfndaaDoorPUnpackstreamMatchesReferencex6R
import Derived.Test.YtpffoecblcfndaaDoorPUnpackstreamMatchesReferencex7R
import Derived.Test.YtpffoecblcfndaaDoorPUnpackstreamMatchesReferencex8R
import Derived.Test.YtpffoecblcfndaaDoorM6R
import Derived.Test.YtpffoecblcfndaaDoorRdr6R
import Derived.Test.YtpffoecblcfndaaDoorQVaBaseR
namespace Go.Proofs.YtpffoecblcfndaaDoor.QUnpackstreamMatchesReference
open Go Go.RowKit Go.Proofs.YtpffoecblcfndaaDoor Go.Proofs.YtpffoecblcfndaaDoor.M Go.Proofs.YtpffoecblcfndaaDoor.PUnpackstreamMatchesReference Go.Proofs.YtpffoecblcfndaaDoorW.PrintWords Go.Proofs.YtpffoecblcfndaaDoorW.PrintLast Go.Proofs.YtpffoecblcfndaaDoorW.PrintMore
open Go.Proofs.YtpffoecblcfndaaDoor.QVaBase (bitsOnes_all bitsOnes tagOnes unRoom unValid unClose unCloseV unNew)
open Go.Proofs.YtpffoecblcfndaaDoor.PVaBase
set_option linter.unusedVariables false
set_option linter.unusedSimpArgs false
set_option maxRecDepth 10000
set_option maxHeartbeats 1000000
theorem room_le {u : Us.U} (h : Us.VU u) : u.word.length ≤ 7 := by
  have hw := h.w
  unfold Us.roomU at hw
  have := onesS_le u.tag
  by_cases s1 : u.st = 1
  · rw [if_pos s1] at hw; omega
  · rw [if_neg s1] at hw; split at hw <;> omega
theorem unLim (a : Int) : Us.limU a ≤ 1152921504606846976 := by unfold Us.limU; omega
theorem refSame_l0 (a b : List Int) (hl : a.length = b.length) (ha : a.length ≤ 140737488355328) : ∀ d i : Nat, i + d = a.length → Ev (fun k => capnpref01_Same.l0 k a b (i : Int)) (decide (a.drop i = b.drop i)) := by
  intro d
  induction d with
  | zero =>
    intro i hi
    refine Ev.step (f := fun _ => some true) (fun k => ?_) ?_
    · simp only [capnpref01_Same.l0]; rw [if_neg (by omega)]
    · rw [List.drop_of_length_le (by omega), List.drop_of_length_le (by omega), decide_eq_true rfl]; exact Ev.now _
  | succ d ih =>
    intro i hi
    rw [drop_rd (show i < a.length by omega), drop_rd (show i < b.length by omega)]
    by_cases e : rd a (i : Int) = rd b (i : Int)
    · refine Ev.step (f := fun k => capnpref01_Same.l0 k a b ((i + 1 : Nat) : Int)) (fun k => ?_) ?_
      · simp only [capnpref01_Same.l0]
        rw [if_pos (by omega), if_pos (by omega), if_pos (by omega), if_pos e, w64 (by omega) (by omega), show (i : Int) + 1 = ((i + 1 : Nat) : Int) by omega]
      · have := ih (i + 1) (by omega)
        simpa [e] using this
    · refine Ev.step (f := fun _ => some false) (fun k => ?_) ?_
      · simp only [capnpref01_Same.l0]
        rw [if_pos (by omega), if_pos (by omega), if_pos (by omega), if_neg e]
      · have : decide (rd a (i : Int) :: a.drop (i + 1) = rd b (i : Int) :: b.drop (i + 1)) = false := by simp [e]
        rw [this]; exact Ev.now _
theorem refSame (a b : List Int) (ha : a.length ≤ 140737488355328) : Ev (fun k => capnpref01_Same.f k a b) (decide (a = b)) := by
  by_cases hl : a.length = b.length
  · refine Ev.congr (fun k => ?_) (refSame_l0 a b hl ha a.length 0 (by omega))
    unfold capnpref01_Same.f
    rw [if_pos (by omega)]; rfl
  · refine Ev.congr (f := fun _ => some (decide (a = b))) (fun k => ?_) (Ev.now _)
    unfold capnpref01_Same.f
    rw [if_neg (by omega), decide_eq_false (fun h => hl (by rw [h]))]
theorem ref25Same (u v : Us.U) (h : u.word.length ≤ 140737488355328) : Ev (fun k => capnpref25_Same.f k u.st u.tag u.word u.left u.done u.err v.st v.tag v.word v.left v.done v.err) (decide (u.st = v.st ∧ u.tag = v.tag ∧ u.word = v.word ∧ u.left = v.left ∧ u.done = v.done ∧ u.err = v.err)) := by
  unfold capnpref25_Same.f
  by_cases h0 : u.st = v.st
  · by_cases h1 : u.tag = v.tag
    · refine Ev.congr (fun k => by rw [if_pos h0, if_pos h1]) (Ev.bind (refSame u.word v.word h) ?_)
      by_cases h2 : u.word = v.word
      · refine Ev.congr (f := fun _ => some _) (fun k => ?_) (Ev.now _)
        rw [if_pos (decide_eq_true h2)]
        by_cases h3 : u.left = v.left
        · rw [if_pos h3]
          by_cases h4 : u.done = v.done
          · rw [if_pos h4]
            by_cases h5 : u.err = v.err
            · rw [decide_eq_true (p := _ ∧ _) ⟨h0, h1, h2, h3, h4, h5⟩]; simp [h5]
            · rw [decide_eq_false (p := _ ∧ _) (fun h => h5 h.2.2.2.2.2)]; simp [h5]
          · rw [if_neg h4, decide_eq_false (p := _ ∧ _) (fun h => h4 h.2.2.2.2.1)]
        · rw [if_neg h3, decide_eq_false (p := _ ∧ _) (fun h => h3 h.2.2.2.1)]
      · refine Ev.congr (f := fun _ => some _) (fun k => ?_) (Ev.now _)
        rw [if_neg (by simp [h2]), decide_eq_false (p := _ ∧ _) (fun h => h2 h.2.2.1)]
    · refine Ev.congr (f := fun _ => some _) (fun k => ?_) (Ev.now _)
      rw [if_pos h0, if_neg h1, decide_eq_false (p := _ ∧ _) (fun h => h1 h.2.1)]
  · refine Ev.congr (f := fun _ => some _) (fun k => ?_) (Ev.now _)
    rw [if_neg h0, decide_eq_false (p := _ ∧ _) (fun h => h0 h.1)]
theorem awake25 : Ev (fun k => capnplaw25_awake.f k) true := Ev.of (fun k => capnplaw25_awake.mono k) (k := 60) (by kernel_rfl)
theorem onesF_zero (n : Nat) : onesF n 0 = 0 := by
  induction n with
  | zero => rfl
  | succ n ih => simp [onesF, ih]
theorem refOnes_l0 : ∀ d : Nat, ∀ (n t : Int), 0 ≤ t → t < 2 ^ d → 0 ≤ n → n ≤ 1000 - d → t < 256 → Ev (fun k => capnpref20_Ones.l0 k n t) (n + ((onesF d t : Nat) : Int)) := by
  intro d
  induction d with
  | zero =>
    intro n t h0 h1 hn hn1 hd
    have ht : t = 0 := by have : t < 1 := h1; omega
    subst ht
    refine Ev.step (f := fun _ => some n) (fun k => ?_) ?_
    · simp only [capnpref20_Ones.l0]; rw [if_neg (by omega)]
    · simpa [onesF] using Ev.now n
  | succ d ih =>
    intro n t h0 h1 hn hn1 hd
    by_cases ht : t = 0
    · subst ht
      refine Ev.step (f := fun _ => some n) (fun k => ?_) ?_
      · simp only [capnpref20_Ones.l0]; rw [if_neg (by omega)]
      · rw [onesF_zero]; simpa using Ev.now n
    · rw [Int.pow_succ] at h1
      have h2 : t / 2 < 2 ^ d := by omega
      clear h1
      refine Ev.step (f := fun k => capnpref20_Ones.l0 k (n + t % 2) (t / 2)) (fun k => ?_) ?_
      · clear h2
        simp only [capnpref20_Ones.l0]
        rw [if_pos (by omega), Int.tmod_eq_emod_of_nonneg h0, Int.tdiv_eq_ediv_of_nonneg h0, w64 (by omega) (by omega), w64 (by omega) (by omega)]
      · have := ih (n + t % 2) (t / 2) (by omega) h2 (by omega) (by omega) (by omega)
        have e : n + t % 2 + ((onesF d (t / 2) : Nat) : Int) = n + ((onesF (d + 1) t : Nat) : Int) := by simp only [onesF]; omega
        rwa [e] at this
theorem refOnes {t : Int} (h0 : 0 ≤ t) (h1 : t < 256) : Ev (fun k => capnpref20_Ones.f k t) ((onesS t : Nat) : Int) := by
  unfold capnpref20_Ones.f
  rw [w64 (by omega) (by omega)]
  have := refOnes_l0 8 0 t h0 h1 (by omega) (by omega) (by omega)
  rwa [Int.zero_add] at this
theorem ref25Valid (st tag : Int) (word : List Int) (left done err : Int) (t0 : 0 ≤ tag) (t1 : tag < 256) : Ev (fun k => capnpref25_Valid.f k st tag word left done err) (Us.validB ⟨st, tag, word, left, done, err⟩) := by
  unfold capnpref25_Valid.f Us.validB
  simp only
  obtain ⟨R, hR⟩ : ∃ R, R = Us.roomU ⟨st, tag, word, left, done, err⟩ := ⟨_, rfl⟩
  rw [← hR]
  unfold Us.roomU at hR
  simp only at hR
  have ho := refOnes t0 t1
  have no0 : Ev (fun k => capnpref25_Valid.j0 k true st tag word left done err) false := Ev.step (f := fun _ => some false) (fun k => by simp only [capnpref25_Valid.j0, if_true]) (Ev.now _)
  have no1 : Ev (fun k => capnpref25_Valid.j1 k true st tag word left done err) false := Ev.step (f := fun _ => some false) (fun k => by simp only [capnpref25_Valid.j1, if_true]) (Ev.now _)
  have F : ¬ (0 ≤ done ∧ done ≤ 1152921504606846976 ∧ done % 8 = 0 ∧ 0 ≤ st ∧ st ≤ 4 ∧ (err = 0 ∨ err = 11) ∧ (tag = 0 ↔ st ≠ 1) ∧ 0 ≤ left ∧ left ≤ 255 ∧ (0 < left ↔ st = 4) ∧ word.length < R ∧ (err = 0 ∨ st = 0)) → decide (0 ≤ done ∧ done ≤ 1152921504606846976 ∧ done % 8 = 0 ∧ 0 ≤ st ∧ st ≤ 4 ∧ (err = 0 ∨ err = 11) ∧ (tag = 0 ↔ st ≠ 1) ∧ 0 ≤ left ∧ left ≤ 255 ∧ (0 < left ↔ st = 4) ∧ word.length < R ∧ (err = 0 ∨ st = 0)) = false := fun h => decide_eq_false h
  by_cases d0 : done < 0
  · rw [F (by omega)]; exact Ev.congr (fun k => if_pos d0) no0
  refine Ev.congr (fun k => if_neg d0) ?_
  by_cases d1 : done > 1152921504606846976
  · rw [F (by omega)]; exact Ev.congr (fun k => if_pos d1) no0
  refine Ev.congr (fun k => if_neg d1) ?_
  have etm : Int.tmod done 8 = done % 8 := Int.tmod_eq_emod_of_nonneg (by omega)
  by_cases d8 : done % 8 = 0
  case neg => rw [F (by omega)]; exact Ev.congr (fun k => if_neg (by rw [etm]; exact d8)) no0
  refine Ev.congr (fun k => if_pos (by rw [etm]; exact d8)) ?_
  have last : 0 ≤ st → st ≤ 4 → (err = 0 ∨ st = 0) → (err = 0 ∨ err = 11) → Ev (fun k => capnpref25_Valid.j1 k false st tag word left done err) (decide (0 ≤ done ∧ done ≤ 1152921504606846976 ∧ done % 8 = 0 ∧ 0 ≤ st ∧ st ≤ 4 ∧ (err = 0 ∨ err = 11) ∧ (tag = 0 ↔ st ≠ 1) ∧ 0 ≤ left ∧ left ≤ 255 ∧ (0 < left ↔ st = 4) ∧ word.length < R ∧ (err = 0 ∨ st = 0))) := by
    intro s0 s4 e1 e2
    by_cases s1 : st = 1
    · rw [if_pos s1] at hR
      by_cases h0 : tag = 0
      · rw [F (by omega)]
        exact Ev.step (f := fun _ => some false) (fun k => by simp only [capnpref25_Valid.j1]; rw [if_neg (by decide), if_pos s1, if_pos h0]) (Ev.now _)
      · by_cases hl : left = 0
        · refine Ev.step (f := fun k => (capnpref20_Ones.f k tag).bind fun t206 => some (decide ((word.length : Int) < t206))) (fun k => by simp only [capnpref25_Valid.j1]; rw [if_neg (by decide), if_pos s1, if_neg h0, if_pos hl]) (Ev.bind ho ?_)
          rw [← hR]
          have e : decide ((word.length : Int) < ((R : Nat) : Int)) = decide (0 ≤ done ∧ done ≤ 1152921504606846976 ∧ done % 8 = 0 ∧ 0 ≤ st ∧ st ≤ 4 ∧ (err = 0 ∨ err = 11) ∧ (tag = 0 ↔ st ≠ 1) ∧ 0 ≤ left ∧ left ≤ 255 ∧ (0 < left ↔ st = 4) ∧ word.length < R ∧ (err = 0 ∨ st = 0)) := by
            rw [decide_eq_decide]; clear hR; constructor
            · intro h; exact ⟨by omega, by omega, d8, s0, s4, e2, by omega, by omega, by omega, by omega, by omega, e1⟩
            · intro h; omega
          rw [e]; exact Ev.now _
        · rw [F (by omega)]
          exact Ev.step (f := fun _ => some false) (fun k => by simp only [capnpref25_Valid.j1]; rw [if_neg (by decide), if_pos s1, if_neg h0, if_neg hl]) (Ev.now _)
    · rw [if_neg s1] at hR
      by_cases s4' : st = 4
      · rw [if_pos s4'] at hR
        by_cases h0 : tag = 0
        · by_cases hl : left ≥ 1
          · by_cases hl2 : left ≤ 255
            · refine Ev.step (f := fun _ => some (decide ((word.length : Int) < 8))) (fun k => by simp only [capnpref25_Valid.j1]; rw [if_neg (by decide), if_neg s1, if_pos s4', if_pos h0, if_pos hl, if_pos hl2]) ?_
              have e : decide ((word.length : Int) < 8) = decide (0 ≤ done ∧ done ≤ 1152921504606846976 ∧ done % 8 = 0 ∧ 0 ≤ st ∧ st ≤ 4 ∧ (err = 0 ∨ err = 11) ∧ (tag = 0 ↔ st ≠ 1) ∧ 0 ≤ left ∧ left ≤ 255 ∧ (0 < left ↔ st = 4) ∧ word.length < R ∧ (err = 0 ∨ st = 0)) := by
                rw [decide_eq_decide]; constructor
                · intro h; exact ⟨by omega, by omega, d8, s0, s4, e2, by omega, by omega, by omega, by omega, by omega, e1⟩
                · intro h; omega
              rw [e]; exact Ev.now _
            · rw [F (by omega)]
              exact Ev.step (f := fun _ => some false) (fun k => by simp only [capnpref25_Valid.j1]; rw [if_neg (by decide), if_neg s1, if_pos s4', if_pos h0, if_pos hl, if_neg hl2]) (Ev.now _)
          · rw [F (by omega)]
            exact Ev.step (f := fun _ => some false) (fun k => by simp only [capnpref25_Valid.j1]; rw [if_neg (by decide), if_neg s1, if_pos s4', if_pos h0, if_neg hl]) (Ev.now _)
        · rw [F (by omega)]
          exact Ev.step (f := fun _ => some false) (fun k => by simp only [capnpref25_Valid.j1]; rw [if_neg (by decide), if_neg s1, if_pos s4', if_neg h0]) (Ev.now _)
      · rw [if_neg s4'] at hR
        by_cases h0 : tag = 0
        · by_cases hl : left = 0
          · refine Ev.step (f := fun _ => some ((word.length : Int) == 0)) (fun k => by simp only [capnpref25_Valid.j1]; rw [if_neg (by decide), if_neg s1, if_neg s4', if_pos h0, if_pos hl]) ?_
            have e : ((word.length : Int) == 0) = decide (0 ≤ done ∧ done ≤ 1152921504606846976 ∧ done % 8 = 0 ∧ 0 ≤ st ∧ st ≤ 4 ∧ (err = 0 ∨ err = 11) ∧ (tag = 0 ↔ st ≠ 1) ∧ 0 ≤ left ∧ left ≤ 255 ∧ (0 < left ↔ st = 4) ∧ word.length < R ∧ (err = 0 ∨ st = 0)) := by
              by_cases hw : word.length = 0
              · rw [show ((word.length : Int) == 0) = true by rw [beq_iff_eq]; omega]
                exact (decide_eq_true ⟨by omega, by omega, d8, s0, s4, e2, by omega, by omega, by omega, by omega, by omega, e1⟩).symm
              · rw [show ((word.length : Int) == 0) = false by rw [beq_eq_false_iff_ne]; omega]
                exact (F (by omega)).symm
            rw [e]; exact Ev.now _
          · rw [F (by omega)]
            exact Ev.step (f := fun _ => some false) (fun k => by simp only [capnpref25_Valid.j1]; rw [if_neg (by decide), if_neg s1, if_neg s4', if_pos h0, if_neg hl]) (Ev.now _)
        · rw [F (by omega)]
          exact Ev.step (f := fun _ => some false) (fun k => by simp only [capnpref25_Valid.j1]; rw [if_neg (by decide), if_neg s1, if_neg s4', if_neg h0]) (Ev.now _)
  by_cases e0 : err = 0
  · refine Ev.congr (fun k => if_pos e0) ?_
    by_cases s0 : st < 0
    · rw [F (by omega)]; exact Ev.congr (fun k => if_pos s0) no0
    refine Ev.congr (fun k => if_neg s0) ?_
    by_cases s4 : st > 4
    · rw [F (by omega), decide_eq_true s4]; exact no0
    rw [decide_eq_false (p := st > 4) s4]
    refine Ev.step (fun k => ?_) (last (by omega) (by omega) (Or.inl e0) (Or.inl e0))
    simp only [capnpref25_Valid.j0]
    rw [if_neg (by decide), if_neg (by omega)]
  · refine Ev.congr (fun k => if_neg e0) ?_
    by_cases e11 : err = 11
    · refine Ev.congr (fun k => if_pos e11) ?_
      by_cases s0 : st < 0
      · rw [F (by omega)]; exact Ev.congr (fun k => if_pos s0) no0
      refine Ev.congr (fun k => if_neg s0) ?_
      by_cases s4 : st > 4
      · rw [F (by omega), decide_eq_true s4]; exact no0
      rw [decide_eq_false (p := st > 4) s4]
      by_cases hs : st = 0
      · refine Ev.step (fun k => ?_) (last (by omega) (by omega) (Or.inr hs) (Or.inr e11))
        simp only [capnpref25_Valid.j0]
        rw [if_neg (by decide), if_pos e11, hs]
        rfl
      · rw [F (by omega)]
        refine Ev.step (fun k => ?_) no1
        simp only [capnpref25_Valid.j0]
        rw [if_neg (by decide), if_pos e11, bne_iff_ne.mpr hs]
    · rw [F (by omega)]; exact Ev.congr (fun k => if_neg e11) no0
theorem refGet_step (b : List Int) (i : Nat) (hb : b.length ≤ 140737488351232) (hi : i < b.length / 8) (j : Nat) (hj : j < 8) (acc : Int) (ha0 : 0 ≤ acc) (ha1 : acc < 72057594037927936) (hx : 0 ≤ rd b ((8 * i + j : Nat) : Int) ∧ rd b ((8 * i + j : Nat) : Int) < 256) (k : Nat) : capnpref01_Get.l0 (k + 1) b (i : Int) acc (((j + 1 : Nat) : Int) - 1) = capnpref01_Get.l0 k b (i : Int) (rd b ((8 * i + j : Nat) : Int) + 256 * acc) ((j : Int) - 1) := by
  have e0 : wrap64 (8 * (i : Int)) = 8 * (i : Int) := w64 (by omega) (by omega)
  have e1 : wrap64 (wrap64 (8 * (i : Int)) + (((j + 1 : Nat) : Int) - 1)) = ((8 * i + j : Nat) : Int) := by rw [e0, w64 (by omega) (by omega)]; omega
  simp only [capnpref01_Get.l0]
  rw [if_pos (by omega), e1, if_pos (by omega), if_pos (by omega), wu (x := acc * 256) (by omega) (by omega), wu (x := rd b _) (by omega) (by omega), wu (by omega) (by omega), w64 (by omega) (by omega), Int.mul_comm acc, Int.add_comm (256 * acc), show ((j + 1 : Nat) : Int) - 1 - 1 = (j : Int) - 1 by omega]
theorem chunk_rd' {b : List Int} {i : Nat} (hi : i < b.length / 8) {j : Nat} (hj : j < 8) : rd (chunk b i) (j : Int) = rd b ((8 * i + j : Nat) : Int) := by
  have hl := chunk_length hi
  rw [rd_lt (by omega), rd_lt (by omega)]
  simp [chunk]
theorem pow256_le {n : Nat} (h : n ≤ 7) : (256 : Int) ^ n ≤ 72057594037927936 := by
  have h1 : (256 : Nat) ^ n ≤ 256 ^ 7 := Nat.pow_le_pow_right (by decide) h
  have h2 : ((256 ^ n : Nat) : Int) ≤ ((256 ^ 7 : Nat) : Int) := Int.ofNat_le.mpr h1
  rw [Int.natCast_pow] at h2
  exact h2
theorem refGet_l0 (b : List Int) (hB : IsB b) (i : Nat) (hb : b.length ≤ 140737488351232) (hi : i < b.length / 8) : ∀ j : Nat, j ≤ 8 → ∀ acc : Int, acc = val ((chunk b i).drop j) → Ev (fun k => capnpref01_Get.l0 k b (i : Int) acc ((j : Int) - 1)) (getS b i, true) := by
  intro j
  induction j with
  | zero =>
    intro hj acc h
    refine Ev.step (f := fun _ => some (acc, true)) (fun k => ?_) ?_
    · simp only [capnpref01_Get.l0]; rw [if_neg (by omega)]
    · rw [h]; exact Ev.now _
  | succ j ih =>
    intro hj acc h
    have hC := chunk_B hB i
    have hl := chunk_length hi
    have hj8 : j < 8 := by omega
    have hjl : j < (chunk b i).length := by omega
    have hd : ((chunk b i).drop (j + 1)).length ≤ 7 := by rw [List.length_drop]; omega
    have hacc0 := val_nonneg _ (hC.drop (j + 1))
    have hacc1 := val_lt _ (hC.drop (j + 1))
    rw [← h] at hacc0 hacc1
    have hacc2 := Int.lt_of_lt_of_le hacc1 (pow256_le hd)
    clear hacc1
    refine Ev.step (refGet_step b i hb hi j hj8 acc hacc0 hacc2 (rd_B hB _)) (ih (by omega) _ ?_)
    rw [drop_rd hjl, chunk_rd' hi hj8, h]; rfl
theorem refGet_yes (b : List Int) (hB : IsB b) (i : Nat) (hb : b.length ≤ 140737488351232) (hi : i < b.length / 8) : Ev (fun k => capnpref01_Get.f k b (i : Int)) (getS b i, true) := by
  refine Ev.congr (f := fun k => capnpref01_Get.j0 k b (i : Int) false) (fun k => ?_) (Ev.step (f := fun k => capnpref01_Get.l0 k b (i : Int) 0 (((8 : Nat) : Int) - 1)) (fun k => ?_) (refGet_l0 b hB i hb hi 8 (by omega) 0 ?_))
  · unfold capnpref01_Get.f
    rw [if_neg (by omega), w64 (x := (b.length : Int) / 8) (by omega) (by omega), w64 (by omega) (by omega), decide_eq_false (by omega)]
  · simp only [capnpref01_Get.j0]; rfl
  · rw [List.drop_of_length_le (by rw [chunk_length hi]; omega)]; rfl
theorem refGet_no (b : List Int) (i : Int) (hb : b.length ≤ 140737488351232) (hi : i < 0 ∨ (b.length : Int) / 8 ≤ i) : Ev (fun k => capnpref01_Get.f k b i) (0, false) := by
  refine Ev.congr (f := fun k => capnpref01_Get.j0 k b i true) (fun k => ?_) (Ev.step (f := fun _ => some (0, false)) (fun k => ?_) (Ev.now _))
  · unfold capnpref01_Get.f
    by_cases h : i < 0
    · rw [if_pos h]
    · rw [if_neg h, w64 (x := (b.length : Int) / 8) (by omega) (by omega), w64 (by omega) (by omega), decide_eq_true (by omega)]
  · simp only [capnpref01_Get.j0]; rfl
theorem refExpand_yes (b : List Int) (hB : IsB b) (hb : b.length ≤ 140737488355328) (x7 : Int) (T : Int) (hT0 : 0 ≤ T) (hT1 : T < 256) (hn : onesS T ≤ b.length) : ∀ d i : Nat, i + d = 8 → ∀ (x8 : List Int) (t kk : Int), x8 = expF i T b → t = T / 2 ^ i → kk = ((onesF i T : Nat) : Int) → Ev (fun k => capnpref20_Expand.l0 k b x7 x8 t kk (i : Int)) (expS T b, x7, true) := by
  intro d
  induction d with
  | zero =>
    intro i hi x8 t kk h8 ht hk
    obtain rfl : i = 8 := by omega
    have hE := expF_B 8 T b hB
    have hl := expF_length 8 T b
    refine Ev.step (f := fun k => (capnpref01_Get.f k x8 ((0 : Nat) : Int)).bind fun q => some (q.1, x7, true)) (fun k => ?_) (Ev.bind (refGet_yes x8 (by rw [h8]; exact hE) 0 (by rw [h8, hl]; omega) (by rw [h8, hl]; omega)) ?_)
    · simp only [capnpref20_Expand.l0]; rw [if_neg (by omega)]; rfl
    · have e : getS x8 0 = expS T b := by rw [getS, chunk_zero, h8, List.take_of_length_le (by omega)]; rfl
      rw [e]; exact Ev.now _
  | succ d ih =>
    intro i hi x8 t kk h8 ht hk
    have hi8 : i < 8 := by omega
    have hs := expF_snoc i T b
    have ho := onesF_snoc i T
    have hl : x8.length = i := by rw [h8, expF_length]
    have hp : (0 : Int) < 2 ^ i := Int.pow_pos (by decide)
    have ht0 : 0 ≤ t := by rw [ht]; exact Int.ediv_nonneg hT0 (Int.le_of_lt hp)
    have ht1 : t ≤ T := by rw [ht]; exact Int.ediv_le_self _ hT0
    have ht2 : t / 2 = T / 2 ^ (i + 1) := by rw [ht, Int.ediv_ediv_of_nonneg (Int.le_of_lt hp), Int.pow_succ]
    rw [← ht] at hs ho
    have hmono : onesF (i + 1) T ≤ onesS T := by
      have m : ∀ j : Nat, onesF (i + 1) T ≤ onesF (i + 1 + j) T := by
        intro j
        induction j with
        | zero => exact Nat.le_refl _
        | succ j ihj => have := onesF_snoc (i + 1 + j) T; rw [← Nat.add_assoc]; omega
      have := m (7 - i)
      rwa [show i + 1 + (7 - i) = 8 by omega] at this
    have hs0 : ∀ k, capnpref20_Expand.l0 (k + 1) b x7 x8 t kk (i : Int) = if t % 2 = 1 then (if 0 ≤ kk then (if kk < (b.length : Int) then capnpref20_Expand.l0 k b x7 (x8 ++ [rd b kk]) (t / 2) (wrap64 (kk + 1)) ((i + 1 : Nat) : Int) else none) else none) else capnpref20_Expand.l0 k b x7 (x8 ++ [0]) (t / 2) kk ((i + 1 : Nat) : Int) := by
      clear ih hs ho hmono ht ht2 hp
      intro k
      simp only [capnpref20_Expand.l0]
      rw [if_pos (show (i : Int) < 8 by omega), Int.tmod_eq_emod_of_nonneg ht0, Int.tdiv_eq_ediv_of_nonneg ht0, w64 (x := t / 2) (by omega) (by omega), wrap_succ i (by omega)]
      simp only [if_pos (show x8.length < 140737488355328 by omega)]
    by_cases h1 : t % 2 = 1
    · rw [if_pos h1] at hs
      rw [h1] at ho
      have hkk : onesF i T < b.length := by simp at ho; omega
      refine Ev.step (f := fun k => capnpref20_Expand.l0 k b x7 (x8 ++ [rd b kk]) (t / 2) (wrap64 (kk + 1)) ((i + 1 : Nat) : Int)) (fun k => ?_) (ih (i + 1) (by omega) _ _ _ ?_ ht2 ?_)
      · rw [hs0, if_pos h1, if_pos (by omega), if_pos (by omega)]
      · rw [hs, h8, hk]
      · rw [hk, ho, w64 (by omega) (by omega)]; simp
    · rw [if_neg h1] at hs
      rw [show t % 2 = 0 by omega] at ho
      refine Ev.step (f := fun k => capnpref20_Expand.l0 k b x7 (x8 ++ [0]) (t / 2) kk ((i + 1 : Nat) : Int)) (fun k => ?_) (ih (i + 1) (by omega) _ _ _ ?_ ht2 ?_)
      · rw [hs0, if_neg h1]
      · rw [hs, h8]
      · rw [hk, ho]; simp
theorem refExpand (t : Int) (b : List Int) (h0 : 0 ≤ t) (h1 : t < 256) (hB : IsB b) (hb : b.length ≤ 140737488355328) : Ev (fun k => capnpref20_Expand.f k t b) (if onesS t ≤ b.length then (expS t b, ((onesS t : Nat) : Int), true) else (0, 0, false)) := by
  unfold capnpref20_Expand.f
  refine Ev.bind (refOnes h0 h1) ?_
  rw [w64 (by omega) (by omega)]
  by_cases h : onesS t ≤ b.length
  · rw [if_pos h]
    exact Ev.congr (fun k => if_neg (by omega)) (refExpand_yes b hB hb _ t h0 h1 h 8 0 rfl [] t 0 rfl (by simp) rfl)
  · rw [if_neg h]
    exact Ev.congr (fun k => if_pos (by omega)) (Ev.now _)
theorem refBytes_l1 (x0 : List Int) (x4 r) : ∀ d j : Nat, j + d = 8 → ∀ (x3 : List Int) (w : Int), 0 ≤ w → w < 18446744073709551616 → x3.length + d < 140737488355328 → Ev (fun k => capnpref01_Bytes.l0 k x0 (x3 ++ bs d w) (wrap64 (x4 + 1))) r → Ev (fun k => capnpref01_Bytes.l1 k x0 x3 x4 w (j : Int)) r := by
  intro d
  induction d with
  | zero =>
    intro j hj x3 w h0 h1 hl h
    obtain rfl : j = 8 := by omega
    refine Ev.step (fun k => ?_) h
    simp only [capnpref01_Bytes.l1]
    rw [if_neg (by omega)]
    simp [bs]
  | succ d ih =>
    intro j hj x3 w h0 h1 hl h
    refine Ev.step (f := fun k => capnpref01_Bytes.l1 k x0 (x3 ++ [w % 256]) x4 (w / 256) ((j + 1 : Nat) : Int)) (fun k => ?_) (ih (j + 1) (by omega) _ _ (by omega) (by omega) (by simp; omega) ?_)
    · simp only [capnpref01_Bytes.l1]
      rw [if_pos (by omega), if_pos (by omega), w64 (by omega) (by omega), Int.tmod_eq_emod_of_nonneg h0, Int.tdiv_eq_ediv_of_nonneg h0, wu (by omega) (by omega), show w % 256 % 256 = w % 256 by omega, show (j : Int) + 1 = ((j + 1 : Nat) : Int) by omega]
    · simpa [bs] using h
theorem refBytes_l0 (x0 : List Int) (hW : IsW x0) (hx : x0.length * 8 < 140737488355328) : ∀ d i : Nat, i + d = x0.length → ∀ x3 : List Int, x3 = bytesS (x0.take i) → Ev (fun k => capnpref01_Bytes.l0 k x0 x3 (i : Int)) (bytesS x0) := by
  intro d
  induction d with
  | zero =>
    intro i hi x3 h
    refine Ev.step (f := fun _ => some x3) (fun k => ?_) ?_
    · simp only [capnpref01_Bytes.l0]; rw [if_neg (by omega)]
    · rw [h, List.take_of_length_le (by omega)]; exact Ev.now _
  | succ d ih =>
    intro i hi x3 h
    have hr := rd_W hW (i : Int)
    refine Ev.step (f := fun k => capnpref01_Bytes.l1 k x0 x3 (i : Int) (rd x0 (i : Int)) ((0 : Nat) : Int)) (fun k => ?_) (refBytes_l1 x0 _ _ 8 0 rfl _ _ hr.1 hr.2 ?_ ?_)
    · simp only [capnpref01_Bytes.l0]; rw [if_pos (by omega), if_pos (by omega)]; rfl
    · rw [h, bytesS_length, List.length_take]; omega
    · rw [w64 (by omega) (by omega), show (i : Int) + 1 = ((i + 1 : Nat) : Int) by omega]
      refine ih (i + 1) (by omega) _ ?_
      rw [take_rd (by omega), bytesS_append, h]; simp [bytesS]
theorem refBytes (l : List Int) (hW : IsW l) (hx : l.length * 8 < 140737488355328) : Ev (fun k => capnpref01_Bytes.f k l) (bytesS l) :=
  refBytes_l0 l hW hx l.length 0 (by omega) [] rfl
abbrev T7 := Int × Int × List Int × Int × Int × Int × List Int
def tup7 (p : Us.UO) : T7 := (p.1.st, p.1.tag, p.1.word, p.1.left, p.1.done, p.1.err, p.2)
theorem ref25Emit (u : Us.U) (out : List Int) (x lim : Int) (d0 : 0 ≤ u.done) (d1 : u.done ≤ 1152921504606846976) (x0 : 0 ≤ x) (x1 : x < 18446744073709551616) (ho : out.length ≤ 100000000000) :
    Ev (fun k => capnpref25_emit.f k u.st u.tag u.word u.left u.done u.err out x lim) (tup7 (Us.emitU lim (u, out) x)) := by
  unfold capnpref25_emit.f Us.emitU
  rw [w64 (by omega) (by omega)]
  by_cases h : lim < u.done + 8
  · rw [if_pos h]
    exact Ev.congr (fun k => if_pos (by omega)) (Ev.now _)
  · rw [if_neg h]
    have hb := bytesS_length [x]
    simp only [List.length_singleton] at hb
    refine Ev.congr (fun k => if_neg (by omega)) (Ev.bind (refBytes [x] (IsW.cons x0 x1 IsW.nil) (by simp)) (Ev.congr (fun k => if_pos (by omega)) (Ev.now _)))
theorem ref25Zeros (c lim : Int) (c0 : 0 ≤ c) (c1 : c < 256) : ∀ (d i : Nat), (i : Int) + d = c + 1 → ∀ (u : Us.U) (out : List Int), 0 ≤ u.done → u.done + 8 * d ≤ 1152921504606846976 + 4096 → (u.err = 0 → u.done ≤ 1152921504606846976) → lim ≤ 1152921504606846976 → out.length + 8 * d ≤ 100000000000 →
    Ev (fun k => capnpref25_step.l0 k out c lim (i : Int) u.st u.tag u.word u.left u.done u.err) (tup7 (Us.zerosU lim d (u, out)))
  | 0, i, hi, u, out, d0, d1, d2, hl, ho => by
    refine Ev.step (f := fun _ => some (tup7 (u, out))) (fun k => ?_) (Ev.now _)
    simp only [capnpref25_step.l0]
    rw [if_neg (by rw [w64 (by omega) (by omega)]; omega)]
    rfl
  | d + 1, i, hi, u, out, d0, d1, d2, hl, ho => by
    unfold Us.zerosU
    by_cases he : u.err = 0
    · rw [if_pos he]
      have hem := ref25Emit u out 0 lim d0 (d2 he) (by decide) (by decide) (by omega)
      have hb := bytesS_length [(0 : Int)]
      simp only [List.length_singleton] at hb
      have hd3 := d2 he
      have ih := ref25Zeros c lim c0 c1 d (i + 1) (by omega) (Us.emitU lim (u, out) 0).1 (Us.emitU lim (u, out) 0).2 (by unfold Us.emitU; split <;> simp only <;> omega) (by unfold Us.emitU; split <;> simp only <;> omega) (by unfold Us.emitU; split <;> rename_i hh <;> simp only at hh ⊢ <;> omega) hl (by unfold Us.emitU; split <;> simp only [List.length_append] <;> omega)
      refine Ev.step (f := fun k => (capnpref25_emit.f k u.st u.tag u.word u.left u.done u.err out 0 lim).bind fun bt269 => (capnpref25_step.l0 k bt269.2.2.2.2.2.2 c lim ((i + 1 : Nat) : Int) bt269.1 bt269.2.1 bt269.2.2.1 bt269.2.2.2.1 bt269.2.2.2.2.1 bt269.2.2.2.2.2.1)) (fun k => ?_) (Ev.bind hem ih)
      simp only [capnpref25_step.l0]
      rw [if_pos (by rw [w64 (by omega) (by omega)]; omega), if_pos he, wrap_succ i (by omega)]
    · rw [if_neg he]
      refine Ev.step (f := fun _ => some (tup7 (u, out))) (fun k => ?_) (Ev.now _)
      simp only [capnpref25_step.l0]
      rw [if_pos (by rw [w64 (by omega) (by omega)]; omega), if_neg he]
      rfl
theorem ref25Step (u : Us.U) (out : List Int) (c lim : Int) (hv : Us.VU u) (he : u.err = 0) (c0 : 0 ≤ c) (c1 : c < 256) (hl : lim ≤ 1152921504606846976) (ho : out.length ≤ 1000000000) :
    Ev (fun k => capnpref25_step.f k u.st u.tag u.word u.left u.done u.err out c lim) (tup7 (Us.stepU lim (u, out) c)) := by
  have hd0 := hv.d0
  have hd1 := hv.d1
  have hs0 := hv.s0
  have hs1 := hv.s1
  have ht := hv.t
  have hl0 := hv.l0
  have hl1 := hv.l1
  have hls := hv.ls
  have hr := room_le hv
  have hw := hv.w
  have hwc : IsB (u.word ++ [c]) := hv.wb.append (IsB.cons c0 c1 IsB.nil)
  unfold capnpref25_step.f Us.stepU
  simp only
  by_cases s0 : u.st = 0
  · rw [if_pos s0]
    have h0 : u.tag = 0 := by omega
    refine Ev.congr (fun k => if_pos s0) ?_
    by_cases hc : c = 0
    · refine Ev.congr (fun k => if_pos hc) ?_
      rw [if_pos hc, show c = u.tag by omega]
      exact Ev.now _
    · refine Ev.congr (fun k => if_neg hc) ?_
      rw [if_neg hc]
      exact Ev.now _
  · rw [if_neg s0]
    refine Ev.congr (fun k => if_neg s0) ?_
    by_cases s1 : u.st = 1
    · rw [if_pos s1]
      unfold Us.roomU at hw
      rw [if_pos s1] at hw
      unfold Us.taggedU
      simp only
      have hlen : (u.word ++ [c]).length = u.word.length + 1 := by rw [List.length_append]; rfl
      refine Ev.congr (fun k => (if_pos s1).trans (by rw [Option.bind_some, if_pos (by simp only [List.length_nil]; omega), Option.bind_some, if_pos (by simp only [List.nil_append]; omega), Option.bind_some, List.nil_append])) ?_
      refine Ev.bind (refExpand u.tag (u.word ++ [c]) hv.tb0 hv.tb1 hwc (by omega)) ?_
      by_cases ho2 : (u.word.length : Int) + 1 < onesS u.tag
      · rw [if_pos ho2, if_neg (by omega)]
        exact Ev.congr (fun k => if_neg (by simp)) (Ev.now _)
      · rw [if_neg ho2, if_pos (by omega)]
        refine Ev.congr (fun k => if_pos rfl) ?_
        have hx := expS_range (t := u.tag) hwc
        unfold Us.finishU
        simp only
        by_cases h255 : u.tag = 255
        · rw [if_pos h255]
          refine Ev.congr (fun k => if_pos h255) (Ev.bind (ref25Emit ⟨3, 0, [], u.left, u.done, u.err⟩ out (expS u.tag (u.word ++ [c])) lim hd0 hd1 hx.1 hx.2 (by omega)) (Ev.now _))
        · rw [if_neg h255]
          refine Ev.congr (fun k => if_neg h255) (Ev.bind (ref25Emit ⟨0, 0, [], u.left, u.done, u.err⟩ out (expS u.tag (u.word ++ [c])) lim hd0 hd1 hx.1 hx.2 (by omega)) (Ev.now _))
    · rw [if_neg s1]
      refine Ev.congr (fun k => if_neg s1) ?_
      by_cases s2 : u.st = 2
      · rw [if_pos s2]
        refine Ev.congr (fun k => if_pos s2) ?_
        exact ref25Zeros c lim c0 c1 (c.toNat + 1) 0 (by omega) ⟨0, u.tag, u.word, u.left, u.done, u.err⟩ out hd0 (by simp only; omega) (fun _ => hd1) hl (by omega)
      · rw [if_neg s2]
        refine Ev.congr (fun k => if_neg s2) ?_
        by_cases s3 : u.st = 3
        · rw [if_pos s3]
          have h0 : u.left = 0 := by omega
          refine Ev.congr (fun k => if_pos s3) ?_
          by_cases hc : c = 0
          · refine Ev.congr (fun k => if_pos hc) ?_
            rw [if_neg (show ¬ 0 < c by omega), show c = u.left by omega]
            exact Ev.now _
          · refine Ev.congr (fun k => if_neg hc) ?_
            rw [if_pos (show 0 < c by omega), w64 (by omega) (by omega)]
            exact Ev.now _
        · rw [if_neg s3]
          have s4 : u.st = 4 := by omega
          unfold Us.roomU at hw
          rw [if_neg s1, if_pos s4] at hw
          unfold Us.literalU
          simp only
          have hlen : (u.word ++ [c]).length = u.word.length + 1 := by rw [List.length_append]; rfl
          have h0 : u.tag = 0 := by omega
          refine Ev.congr (fun k => (if_neg s3).trans (by rw [Option.bind_some, if_pos (by simp only [List.length_nil]; omega), Option.bind_some, if_pos (by simp only [List.nil_append]; omega), Option.bind_some, List.nil_append])) ?_
          by_cases h8 : (u.word.length : Int) + 1 < 8
          · rw [if_pos h8]
            refine Ev.bind (refGet_no (u.word ++ [c]) 0 (by omega) (Or.inr (by omega))) (Ev.congr (fun k => if_neg (by simp)) (Ev.now _))
          · rw [if_neg h8]
            have hg : getS (u.word ++ [c]) 0 = expS 255 (u.word ++ [c]) := by rw [Us.expS_255' (by omega)]; rfl
            have hx := expS_range (t := 255) hwc
            have hgy := refGet_yes (u.word ++ [c]) hwc 0 (by omega) (by omega)
            rw [hg] at hgy
            refine Ev.bind hgy (Ev.congr (fun k => if_pos rfl) ?_)
            have hwl : wrap64 (u.left - 1) = u.left - 1 := w64 (by omega) (by omega)
            rw [hwl]
            unfold Us.finishU
            simp only
            by_cases hz : u.left - 1 = 0
            · rw [if_neg (show ¬ 0 < u.left - 1 by omega)]
              refine Ev.congr (fun k => if_pos hz) ?_
              rw [h0]
              exact Ev.bind (ref25Emit ⟨0, 0, [], u.left - 1, u.done, u.err⟩ out (expS 255 (u.word ++ [c])) lim hd0 hd1 hx.1 hx.2 (by omega)) (Ev.now _)
            · rw [if_pos (show 0 < u.left - 1 by omega)]
              refine Ev.congr (fun k => if_neg hz) ?_
              rw [h0, s4]
              exact Ev.bind (ref25Emit ⟨4, 0, [], u.left - 1, u.done, u.err⟩ out (expS 255 (u.word ++ [c])) lim hd0 hd1 hx.1 hx.2 (by omega)) (Ev.now _)
theorem mnmx (a : Int) : mn (mx a 0) 1152921504606846976 = Us.limU a := by
  unfold mn mx Us.limU
  repeat' split
  all_goals omega
theorem ref25Write_l0 {p : List Int} (hB : IsB p) (hp : p.length ≤ 400) (lim : Int) : ∀ (d i : Nat), i + d = p.length → ∀ (u : Us.U) (out : List Int), Us.VU u → out.length ≤ 2048 * i →
    Ev (fun k => capnpref25_Write.l0 k p lim out (i : Int) u.st u.tag u.word u.left u.done u.err) (Us.outF (Us.runU (Us.limU lim) (p.drop i) (u, out)))
  | 0, i, hi, u, out, hv, ho => by
    rw [List.drop_of_length_le (by omega)]
    refine Ev.step (f := fun _ => some (Us.outF (u, out))) (fun k => ?_) (Ev.now _)
    simp only [capnpref25_Write.l0]
    rw [if_neg (by omega)]
    rfl
  | d + 1, i, hi, u, out, hv, ho => by
    have hlt : i < p.length := by omega
    have hb := rd_B hB (i : Int)
    rw [drop_rd hlt]
    unfold Us.runU
    simp only
    by_cases he : u.err = 0
    · rw [if_pos he]
      have hst := ref25Step u out (rd p (i : Int)) (Us.limU lim) hv he hb.1 hb.2 (unLim lim) (by omega)
      have hv2 := Us.step_valid (p := (u, out)) (c := rd p (i : Int)) (unLim lim) hv he hb.1 hb.2
      have hl2 := Us.step_len (lim := Us.limU lim) (p := (u, out)) hb.1 hb.2
      simp only at hl2
      have ih := ref25Write_l0 hB hp lim d (i + 1) (by omega) (Us.stepU (Us.limU lim) (u, out) (rd p (i : Int))).1 (Us.stepU (Us.limU lim) (u, out) (rd p (i : Int))).2 hv2 (by omega)
      refine Ev.step (f := fun k => (capnpref25_step.f k u.st u.tag u.word u.left u.done u.err out (rd p (i : Int)) (Us.limU lim)).bind fun bt317 => (capnpref25_Write.l0 k p lim bt317.2.2.2.2.2.2 ((i + 1 : Nat) : Int) bt317.1 bt317.2.1 bt317.2.2.1 bt317.2.2.2.1 bt317.2.2.2.2.1 bt317.2.2.2.2.2.1)) (fun k => ?_) (Ev.bind hst ih)
      simp only [capnpref25_Write.l0]
      rw [if_pos (by omega), if_pos he, if_pos (by omega), wrap_succ i (by omega), mnmx]
    · rw [if_neg he]
      refine Ev.step (f := fun _ => some (Us.outF (u, out))) (fun k => ?_) (Ev.now _)
      simp only [capnpref25_Write.l0]
      rw [if_pos (by omega), if_neg he]
      rfl
theorem ref25Write {u : Us.U} {p : List Int} (t0 : 0 ≤ u.tag) (t1 : u.tag < 256) (hw : IsB u.word) (hB : IsB p) (hp : p.length ≤ 400) (lim : Int) :
    Ev (fun k => capnpref25_Write.f k u.st u.tag u.word u.left u.done u.err p lim) (if Us.validB u = true then Us.outF (Us.runU (Us.limU lim) p (u, [])) else (u.st, u.tag, u.word, u.left, u.done, u.err, [], 12)) := by
  unfold capnpref25_Write.f
  refine Ev.bind (ref25Valid u.st u.tag u.word u.left u.done u.err t0 t1) ?_
  by_cases hv : Us.validB u = true
  · refine Ev.congr (fun k => if_pos hv) ?_
    rw [if_pos hv]
    have := ref25Write_l0 hB hp lim p.length 0 (by omega) u [] (Us.validB_V hv t0 t1 hw) (by simp)
    rw [List.drop_zero] at this
    exact this
  · refine Ev.congr (fun k => if_neg hv) ?_
    rw [if_neg hv]
    exact Ev.now _
theorem ref25Close (st tag : Int) (word : List Int) (left done err : Int) (t0 : 0 ≤ tag) (t1 : tag < 256) : Ev (fun k => capnpref25_Close.f k st tag word left done err) (if Us.validB ⟨st, tag, word, left, done, err⟩ = true then Us.closeU ⟨st, tag, word, left, done, err⟩ else 12) := by
  unfold capnpref25_Close.f
  refine Ev.bind (ref25Valid st tag word left done err t0 t1) (Ev.congr (f := fun _ => some _) (fun k => ?_) (Ev.now _))
  by_cases hv : Us.validB ⟨st, tag, word, left, done, err⟩ = true
  · rw [if_pos hv, if_pos hv]
    unfold Us.closeU
    simp only
    by_cases h0 : err = 0
    · by_cases h1 : st = 0
      · rw [if_pos h0, if_pos h1, if_neg (by simp [h0]), if_neg (by simp [h1]), h0]
      · rw [if_pos h0, if_neg h1, if_neg (by simp [h0]), if_pos h1]
    · rw [if_neg h0, if_pos h0]
  · rw [if_neg hv, if_neg hv]
end Go.Proofs.YtpffoecblcfndaaDoor.QUnpackstreamMatchesReference
