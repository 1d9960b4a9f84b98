/- Package packstream: Valid; one word keeps what a state is; the streaming packer over bytes. -/
import Derived.Test.YtibkbgaonjdpiaaPk5S
namespace Go.Proofs.Ytibkbgaonjdpiaa.Ps
open Go Go.RowKit Go.Proofs.Ytibkbgaonjdpiaa Go.Proofs.Ytibkbgaonjdpiaa.M Go.Proofs.Ytibkbgaonjdpiaa.PPaBase Go.Proofs.Ytibkbgaonjdpiaa.QPaBase Go.Proofs.YtibkbgaonjdpiaaW.PrintWords Go.Proofs.YtibkbgaonjdpiaaW.PrintLast Go.Proofs.YtibkbgaonjdpiaaW.PrintMore
set_option linter.unusedVariables false
set_option linter.unusedSimpArgs false
set_option maxHeartbeats 1000000
set_option maxRecDepth 100000
def runB (rw : List Int) : Bool := rw.all denseS && (match rw with | [] => true | x :: _ => decide (ofS x = 255))
def validB (p : List Int) (z : Int) (r : List Int) : Bool := decide (r.length % 8 = 0 ∧ r.length / 8 ≤ 255 ∧ p.length < 8 ∧ 0 ≤ z ∧ z ≤ 255 ∧ (z ≤ 0 ∨ r.length / 8 = 0)) && runB (wordsS r)
theorem valid_l0 (rw : List Int) (hl : rw.length ≤ 1000000) : ∀ d i : Nat, i + d = rw.length → Ev (fun k => packstream_Valid.l0 k rw (rw.length : Int) (i : Int)) (if i = 0 then runB rw else (rw.drop i).all denseS) := by
  intro d
  induction d with
  | zero =>
    intro i hi
    refine Ev.step (f := fun _ => some true) (fun k => ?_) ?_
    · simp only [packstream_Valid.l0]; rw [if_neg (by omega)]
    · have e : (if i = 0 then runB rw else (rw.drop i).all denseS) = true := by
        rw [List.drop_of_length_le (by omega)]
        split
        · have : rw = [] := List.length_eq_zero_iff.mp (by omega)
          rw [this]; rfl
        · rfl
      rw [e]; exact Ev.now _
  | succ d ih =>
    intro i hi
    have hlt : i < rw.length := by omega
    have hd : rw.drop i = rd rw (i : Int) :: rw.drop (i + 1) := drop_rd hlt
    have ih1 := ih (i + 1) (by omega)
    rw [if_neg (by omega)] at ih1
    refine Ev.step (f := fun k => (tagbyte_Dense.f k (rd rw (i : Int))).bind fun t => if t = true then (if i = 0 then ((tagbyte_Of.f k (rd rw (i : Int))).bind fun t => if t = 255 then packstream_Valid.l0 k rw (rw.length : Int) ((i + 1 : Nat) : Int) else some false) else packstream_Valid.l0 k rw (rw.length : Int) ((i + 1 : Nat) : Int)) else some false) (fun k => ?_) ?_
    · simp only [packstream_Valid.l0]
      rw [if_pos (by omega), if_pos (by omega), if_pos (by omega), wrap_succ i (by omega)]
      simp only [Int.natCast_eq_zero]
    · refine Ev.bind (tagDense _) ?_
      by_cases hD : denseS (rd rw (i : Int)) = true
      · refine Ev.congr (fun k => if_pos hD) ?_
        by_cases h0 : i = 0
        · refine Ev.congr (fun k => if_pos h0) (Ev.bind (tagOf _) ?_)
          subst h0
          rw [if_pos rfl]
          rw [List.drop_zero] at hd
          by_cases hO : ofS (rd rw ((0 : Nat) : Int)) = 255
          · refine Ev.congr (fun k => if_pos hO) ?_
            have e : runB rw = (rw.drop (0 + 1)).all denseS := by
              rw [hd]
              simp only [runB, List.all_cons, hD, hO, Bool.true_and, decide_true, Bool.and_true]
              rfl
            rw [e]; exact ih1
          · have e : runB rw = false := by
              rw [hd]
              simp only [runB, decide_eq_false hO, Bool.and_false]
            rw [e]; exact Ev.congr (fun k => if_neg hO) (Ev.now _)
        · rw [if_neg h0, hd, List.all_cons, hD, Bool.true_and]
          exact Ev.congr (fun k => if_neg h0) ih1
      · have hD' : denseS (rd rw (i : Int)) = false := by simpa using hD
        have e : (if i = 0 then runB rw else (rw.drop i).all denseS) = false := by
          split
          · rename_i h0
            subst h0
            rw [List.drop_zero] at hd
            rw [hd]; simp only [runB, List.all_cons, hD', Bool.false_and]
          · rw [hd, List.all_cons, hD', Bool.false_and]
        rw [e]
        exact Ev.congr (fun k => if_neg hD) (Ev.now _)
theorem packValid (p : List Int) (z : Int) {r : List Int} (hB : IsB r) (hr : r.length ≤ 1000000) (hp : p.length ≤ 1000000) : Ev (fun k => packstream_Valid.f k p z r) (validB p z r) := by
  unfold packstream_Valid.f validB
  have no : ∀ l : List Int, Ev (fun k => packstream_Valid.j0 k l true) false := fun l => Ev.step (f := fun _ => some false) (fun k => by simp only [packstream_Valid.j0, if_true]) (Ev.now _)
  have F : ¬ (r.length % 8 = 0 ∧ r.length / 8 ≤ 255 ∧ p.length < 8 ∧ 0 ≤ z ∧ z ≤ 255 ∧ (z ≤ 0 ∨ r.length / 8 = 0)) → (decide (r.length % 8 = 0 ∧ r.length / 8 ≤ 255 ∧ p.length < 8 ∧ 0 ≤ z ∧ z ≤ 255 ∧ (z ≤ 0 ∨ r.length / 8 = 0)) && runB (wordsS r)) = false := fun h => by rw [decide_eq_false h, Bool.false_and]
  have G : (r.length % 8 = 0 ∧ r.length / 8 ≤ 255 ∧ p.length < 8 ∧ 0 ≤ z ∧ z ≤ 255 ∧ (z ≤ 0 ∨ r.length / 8 = 0)) → (decide (r.length % 8 = 0 ∧ r.length / 8 ≤ 255 ∧ p.length < 8 ∧ 0 ≤ z ∧ z ≤ 255 ∧ (z ≤ 0 ∨ r.length / 8 = 0)) && runB (wordsS r)) = runB (wordsS r) := fun h => by rw [decide_eq_true h, Bool.true_and]
  have yes : Ev (fun k => packstream_Valid.j0 k (wordsS r) false) (runB (wordsS r)) := by
    refine Ev.step (f := fun k => packstream_Valid.l0 k (wordsS r) ((wordsS r).length : Int) 0) (fun k => by simp only [packstream_Valid.j0]; rw [if_neg (by decide)]) ?_
    have := valid_l0 (wordsS r) (by rw [wordsS_length]; omega) (wordsS r).length 0 (by omega)
    rw [if_pos rfl] at this
    exact this
  by_cases h8 : r.length % 8 = 0
  · refine Ev.bind (wordWords_yes r hB (by omega) h8) (Ev.congr (fun k => if_pos rfl) ?_)
    have hn := wordsS_length r
    by_cases c1 : ((wordsS r).length : Int) > 255
    · rw [F (by omega)]; exact Ev.congr (fun k => if_pos c1) (no _)
    · refine Ev.congr (fun k => if_neg c1) ?_
      by_cases c2 : (p.length : Int) ≥ 8
      · rw [F (by omega)]; exact Ev.congr (fun k => if_pos c2) (no _)
      · refine Ev.congr (fun k => if_neg c2) ?_
        by_cases c3 : z < 0
        · rw [F (by omega)]; exact Ev.congr (fun k => if_pos c3) (no _)
        · refine Ev.congr (fun k => if_neg c3) ?_
          by_cases c4 : z > 255
          · rw [F (by omega)]; exact Ev.congr (fun k => if_pos c4) (no _)
          · refine Ev.congr (fun k => if_neg c4) ?_
            by_cases c5 : z > 0
            · refine Ev.congr (fun k => if_pos c5) ?_
              by_cases c6 : ((wordsS r).length : Int) > 0
              · rw [decide_eq_true c6, F (by omega)]; exact no _
              · rw [decide_eq_false c6, G (by omega)]; exact yes
            · rw [G (by omega)]; exact Ev.congr (fun k => if_neg c5) yes
  · rw [F (by omega)]
    exact Ev.bind (wordWords_no r h8) (Ev.congr (fun k => if_neg (by decide)) (no _))
structure IB (z : Int) (r : List Int) : Prop where
  z0 : 0 ≤ z
  z1 : z ≤ 255
  rl : r.length ≤ 2040
  one : z = 0 ∨ r.length = 0
  r8 : r.length = 0 ∨ 8 ≤ r.length
theorem openB_len (z : Int) (r : List Int) : (openB z r).length ≤ r.length + 2 := by
  unfold openB
  split
  · simp
  · split
    · simp
    · simp only [List.length_append, List.length_cons, List.length_nil, List.length_take, List.length_drop]; omega
theorem IB.opens {z : Int} {r : List Int} (h : IB z r) : openF z r = some (openB z r) := by
  have := h.z1; have := h.rl; have := h.r8
  unfold openF; rw [if_pos (by omega)]
theorem beginB_IB (o : List Int) (x : Int) : IB (beginB (0, [], o) x).1 (beginB (0, [], o) x).2.1 ∧ (beginB (0, [], o) x).2.2.length ≤ o.length + 9 := by
  have h8 := nzS_length_le x
  unfold beginB
  split
  · exact ⟨⟨show (0 : Int) ≤ 1 by decide, show (1 : Int) ≤ 255 by decide, Nat.zero_le _, Or.inr rfl, Or.inl rfl⟩, show o.length ≤ o.length + 9 by omega⟩
  · split
    · have hb : (bytesS [x]).length = 8 := by rw [bytesS_length]; rfl
      exact ⟨⟨by simp, by simp, by simp only [hb]; omega, Or.inl rfl, Or.inr (by simp only [hb]; omega)⟩, by simp⟩
    · exact ⟨⟨by simp, by simp, Nat.zero_le _, Or.inl rfl, Or.inl rfl⟩, by simp only [List.length_append, List.length_cons, List.length_nil]; omega⟩
theorem wordB_IB {z : Int} {r : List Int} (h : IB z r) (o : List Int) (x : Int) : IB (wordB (z, r, o) x).1 (wordB (z, r, o) x).2.1 ∧ (wordB (z, r, o) x).2.2.length ≤ o.length + 2100 := by
  obtain ⟨z0, z1, rl, one, r8⟩ := h
  have nil : IB 0 [] := ⟨by decide, by decide, Nat.zero_le _, Or.inl rfl, Or.inl rfl⟩
  unfold wordB
  by_cases c1 : 0 < z ∧ x = 0
  · have ht : takeB (z, r, o) x = (z + 1, r, o) := by unfold takeB; rw [if_pos c1]
    rw [ht]
    have hl := openB_len (z + 1) r
    by_cases c2 : 255 < z + 1 ∨ 2040 < r.length
    · rw [if_pos c2]; exact ⟨nil, by simp only [flushB, List.length_append]; omega⟩
    · rw [if_neg c2]; exact ⟨⟨by simp only; omega, by simp only; omega, rl, Or.inr (by simp only; omega), r8⟩, by simp⟩
  · by_cases c2 : 0 < r.length ∧ denseS x = true
    · have ht : takeB (z, r, o) x = (z, r ++ bytesS [x], o) := by unfold takeB; rw [if_neg c1, if_pos c2]
      have hb : (r ++ bytesS [x]).length = r.length + 8 := by rw [List.length_append, bytesS_length]; rfl
      rw [ht]
      have hl := openB_len z (r ++ bytesS [x])
      by_cases c3 : 255 < z ∨ 2040 < (r ++ bytesS [x]).length
      · rw [if_pos c3]; exact ⟨nil, by simp only [flushB]; rw [List.length_append]; omega⟩
      · rw [if_neg c3]; exact ⟨⟨z0, z1, by simp only [hb]; omega, Or.inl (by simp only; omega), Or.inr (by simp only [hb]; omega)⟩, by simp⟩
    · have ht : takeB (z, r, o) x = beginB (0, [], o ++ openB z r) x := by unfold takeB; rw [if_neg c1, if_neg c2]; rfl
      have hs := beginB_small (o ++ openB z r) x
      have hI := beginB_IB (o ++ openB z r) x
      have hl := openB_len z r
      rw [ht, if_neg (by omega)]
      refine ⟨hI.1, Nat.le_trans hI.2 ?_⟩
      rw [List.length_append]; omega
theorem word_calls {W0 w : World} {g : Nat} {S : Nat → Prop} {ob : Nat → Obj} {vP : Value} {z x : Int} {r o : List Int} (hd : Wr W0 w g S ob vP z r o) (h : IB z r) (hol : o.length + 4096 ≤ 70368744177664) :
    Calls Try.prog 23 #[.pointer (some ⟨g, 0, none⟩), .int .u64 x] w fun e w' => e = .returned (.tuple #[]) ∧ Wr W0 w' g S ob vP (wordB (z, r, o) x).1 (wordB (z, r, o) x).2.1 (wordB (z, r, o) x).2.2 := by
  have hop := h.opens
  obtain ⟨z0, z1, rl, one, r8⟩ := h
  unfold wordB
  by_cases c1 : 0 < z ∧ x = 0
  · have ht : takeB (z, r, o) x = (z + 1, r, o) := by unfold takeB; rw [if_pos c1]
    rw [ht]
    by_cases c2 : 255 < z + 1
    · rw [if_pos (Or.inl c2)]
      exact word_zero_flush hd c1.1 z1 c1.2 rl c2 (by unfold openF; rw [if_pos (by omega)]) (Nat.le_trans (openB_len _ _) (show r.length + 2 ≤ 4096 by omega)) (by omega)
    · rw [if_neg (by simp only; omega)]
      exact word_zero hd c1.1 z1 c1.2 rl c2
  · by_cases c2 : 0 < r.length ∧ denseS x = true
    · have ht : takeB (z, r, o) x = (z, r ++ bytesS [x], o) := by unfold takeB; rw [if_neg c1, if_pos c2]
      have hb : (r ++ bytesS [x]).length = r.length + 8 := by rw [List.length_append, bytesS_length]; rfl
      rw [ht]
      by_cases c3 : 2040 < r.length + 8
      · rw [if_pos (Or.inr (by simp only [hb]; omega))]
        exact word_run_flush hd (by omega) c2.1 c2.2 rl c3 (by unfold openF; rw [if_pos (by omega)]) (Nat.le_trans (openB_len _ _) (show (r ++ bytesS [x]).length + 2 ≤ 4096 by omega)) (by omega)
      · rw [if_neg (by simp only [hb]; omega)]
        exact word_run hd (by omega) c2.1 c2.2 rl c3
    · have ht : takeB (z, r, o) x = beginB (0, [], o ++ openB z r) x := by unfold takeB; rw [if_neg c1, if_neg c2]; rfl
      have hs := beginB_small (o ++ openB z r) x
      have hyl : (openB z r).length ≤ 4096 := Nat.le_trans (openB_len z r) (by omega)
      rw [ht, if_neg (by omega)]
      by_cases c4 : r.length = 0
      · by_cases c5 : z = 0
        · exact word_new0 hd c5 c4 hop hyl hol
        · exact word_new2 hd (by omega) (fun e => c1 ⟨by omega, e⟩) c4 hop hyl hol
      · exact word_new1 hd (by omega) (by omega) (by simpa [show 0 < r.length by omega] using c2) hop hyl hol
end Go.Proofs.Ytibkbgaonjdpiaa.Ps
