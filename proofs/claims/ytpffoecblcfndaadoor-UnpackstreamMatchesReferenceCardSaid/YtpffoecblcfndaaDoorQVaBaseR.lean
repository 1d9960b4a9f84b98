/- The printed functions of the law VaBase hold what their plain specifications say. -/
import Derived.Test.YtpffoecblcfndaaDoorPVaBasex0R
import Derived.Test.YtpffoecblcfndaaDoorPVaBasex1R
import Derived.Test.YtpffoecblcfndaaDoorPVaBasex2R
import Derived.Test.YtpffoecblcfndaaDoorPVaBasex3R
import Derived.Test.YtpffoecblcfndaaDoorM6R
import Derived.Test.YtpffoecblcfndaaDoorUst2R
namespace Go.Proofs.YtpffoecblcfndaaDoor.QVaBase
open Go Go.RowKit Go.Proofs.YtpffoecblcfndaaDoor Go.Proofs.YtpffoecblcfndaaDoor.M Go.Proofs.YtpffoecblcfndaaDoor.PVaBase Go.Proofs.YtpffoecblcfndaaDoorW.PrintWords Go.Proofs.YtpffoecblcfndaaDoorW.PrintLast Go.Proofs.YtpffoecblcfndaaDoorW.PrintMore
set_option linter.unusedVariables false
set_option linter.unusedSimpArgs false
set_option maxRecDepth 10000
set_option maxHeartbeats 1000000
theorem bitsOnes_all : ∀ n : Fin 256, bits_OnesCount8.f ((n.val : Nat) : Int) = some ((onesS ((n.val : Nat) : Int) : Nat) : Int) := by decide +kernel
theorem bitsOnes {t : Int} (h0 : 0 ≤ t) (h1 : t < 256) : bits_OnesCount8.f t = some ((onesS t : Nat) : Int) := by
  obtain ⟨n, rfl⟩ := Int.eq_ofNat_of_zero_le h0
  exact bitsOnes_all ⟨n, by omega⟩
theorem tagOnes {t : Int} (h0 : 0 ≤ t) (h1 : t < 256) : tagbyte_Ones.f t = some ((onesS t : Nat) : Int) := by
  unfold tagbyte_Ones.f
  rw [bitsOnes h0 h1]; rfl
theorem unRoom (st tag : Int) (word : List Int) (left done err : Int) (t0 : 0 ≤ tag) (t1 : tag < 256) : unpackstream_room.f st tag word left done err = some ((Us.roomU ⟨st, tag, word, left, done, err⟩ : Nat) : Int) := by
  unfold unpackstream_room.f Us.roomU
  simp only
  by_cases h1 : st = 1
  · rw [if_pos h1, if_pos h1, tagOnes t0 t1]; rfl
  · rw [if_neg h1, if_neg h1]
    by_cases h4 : st = 4
    · rw [if_pos h4, if_pos h4]; rfl
    · rw [if_neg h4, if_neg h4]; rfl
theorem unValid (st tag : Int) (word : List Int) (left done err : Int) (t0 : 0 ≤ tag) (t1 : tag < 256) : Ev (fun k => unpackstream_Valid.f k st tag word left done err) (Us.validB ⟨st, tag, word, left, done, err⟩) := by
  refine Ev.from_ 3 (fun j => ?_)
  have hr := unRoom st tag word left done err t0 t1
  obtain ⟨R, hR⟩ : ∃ R, R = Us.roomU ⟨st, tag, word, left, done, err⟩ := ⟨_, rfl⟩
  rw [← hR] at hr
  have h2 : ∀ b, unpackstream_Valid.j2 (j + 1) b st tag word left done err = if b = true then some false else some (decide (word.length < R ∧ (err = 0 ∨ st = 0))) := by
    intro b
    simp only [unpackstream_Valid.j2, hr, Option.bind_some]
    repeat' split
    all_goals first | rfl | (congr 1; symm; simp only [decide_eq_true_eq, decide_eq_false_iff_not]; omega)
  have h3 : ∀ b, unpackstream_Valid.j3 (j + 1) b st tag word left done err = if b = true then some false else some (decide (word.length < R ∧ (err = 0 ∨ st = 0))) := by
    intro b
    simp only [unpackstream_Valid.j3, hr, Option.bind_some]
    repeat' split
    all_goals first | rfl | (congr 1; symm; simp only [decide_eq_true_eq, decide_eq_false_iff_not]; omega)
  have h1 : ∀ b, unpackstream_Valid.j1 (j + 2) b st tag word left done err = if b = true then some false else some (decide ((tag = 0 ↔ st ≠ 1) ∧ 0 ≤ left ∧ left ≤ 255 ∧ (0 < left ↔ st = 4) ∧ word.length < R ∧ (err = 0 ∨ st = 0))) := by
    intro b
    simp only [unpackstream_Valid.j1, h2, h3]
    by_cases hb : b = true
    · rw [if_pos hb, if_pos hb]
    · rw [if_neg hb, if_neg hb]
      repeat' split
      all_goals first | rfl | (congr 1; symm; simp only [decide_eq_true_eq, decide_eq_false_iff_not]; omega) | (simp_all; done) | (congr 1; rw [decide_eq_decide]; constructor <;> intro hh <;> (first | omega | (refine ⟨?_, ?_, ?_, ?_, ?_, ?_⟩ <;> omega))) | omega
  have h0 : ∀ b, unpackstream_Valid.j0 (j + 3) b st tag word left done err = if b = true then some false else some (decide (0 ≤ st ∧ st ≤ 4 ∧ (err = 0 ∨ err = 11) ∧ (tag = 0 ↔ st ≠ 1) ∧ 0 ≤ left ∧ left ≤ 255 ∧ (0 < left ↔ st = 4) ∧ word.length < R ∧ (err = 0 ∨ st = 0))) := by
    intro b
    simp only [unpackstream_Valid.j0, h1]
    by_cases hb : b = true
    · rw [if_pos hb, if_pos hb, if_pos hb]
    · rw [if_neg hb, if_neg hb]
      by_cases e0 : err = 0
      · rw [if_pos e0]
        repeat' split
        all_goals first | rfl | (congr 1; symm; simp only [decide_eq_true_eq, decide_eq_false_iff_not]; omega) | (simp_all; done) | (congr 1; rw [decide_eq_decide]; constructor <;> intro hh <;> omega)
      · rw [if_neg e0]
        repeat' split
        all_goals first | rfl | (congr 1; symm; simp only [decide_eq_true_eq, decide_eq_false_iff_not]; omega) | (simp_all; done) | (congr 1; rw [decide_eq_decide]; constructor <;> intro hh <;> omega)
  rw [show 3 + j = j + 3 by omega]
  unfold unpackstream_Valid.f Us.validB
  simp only [h0, ← hR]
  by_cases hd : done < 0
  · rw [if_pos hd, if_pos trivial]; congr 1; symm; rw [decide_eq_false_iff_not]; omega
  · rw [if_neg hd]
    by_cases hd2 : done > 1152921504606846976
    · rw [if_pos hd2, if_pos trivial]; congr 1; symm; rw [decide_eq_false_iff_not]; omega
    · rw [if_neg hd2]; simp only [Int.tmod_eq_emod_of_nonneg (show 0 ≤ done by omega)]
      by_cases h8 : done % 8 = 0
      · rw [show (done % 8 != 0) = false by simpa using h8, if_neg (by decide)]
        congr 1; rw [decide_eq_decide]; constructor
        · intro hh; exact ⟨by omega, by omega, h8, hh⟩
        · intro hh; exact hh.2.2.2
      · rw [show (done % 8 != 0) = true by simpa using h8, if_pos rfl]; congr 1; symm; rw [decide_eq_false_iff_not]; omega
theorem unClose (st tag : Int) (word : List Int) (left done err : Int) (t0 : 0 ≤ tag) (t1 : tag < 256) : Ev (fun k => unpackstream_Close.f k st tag word left done err) (if Us.validB ⟨st, tag, word, left, done, err⟩ = true then Us.closeU ⟨st, tag, word, left, done, err⟩ else 12) := by
  unfold unpackstream_Close.f
  refine Ev.bind (unValid st tag word left done err t0 t1) (Ev.congr (f := fun _ => some _) (fun k => ?_) (Ev.now _))
  by_cases hv : Us.validB ⟨st, tag, word, left, done, err⟩ = true
  · rw [if_pos hv, if_pos hv]
    unfold Us.closeU
    simp only
    by_cases h0 : err = 0
    · by_cases h1 : st = 0
      · rw [if_pos h0, if_pos h1, if_neg (by simp [h0]), if_neg (by simp [h1])]
      · rw [if_pos h0, if_neg h1, if_neg (by simp [h0]), if_pos h1]
    · rw [if_neg h0, if_pos h0]
  · rw [if_neg hv, if_neg hv]
theorem unCloseV {u : Us.U} (h : Us.VU u) : Ev (fun k => unpackstream_Close.f k u.st u.tag u.word u.left u.done u.err) (Us.closeU u) := by
  have := unClose u.st u.tag u.word u.left u.done u.err h.tb0 h.tb1
  rw [if_pos (Us.V_validB h)] at this
  exact this
theorem unNew : unpackstream_New.f = some (0, 0, [], 0, 0, 0) := rfl
end Go.Proofs.YtpffoecblcfndaaDoor.QVaBase
