/- The law UnpackTruncation: every proper prefix of a packed form decodes to a prefix of the words; the concatenation of two complete inputs decodes to the concatenation of their outputs. -/
import Derived.Test.YtcdkgccmmfjnhaaDoorQUnpackTruncation
namespace Go.Proofs.YtcdkgccmmfjnhaaDoor.Pure
open Go Go.RowKit Go.Proofs.YtcdkgccmmfjnhaaDoor.M Go.Proofs.YtcdkgccmmfjnhaaDoor.PUnpackTruncation Go.Proofs.YtcdkgccmmfjnhaaDoorW.PrintWords Go.Proofs.YtcdkgccmmfjnhaaDoorW.PrintLast Go.Proofs.YtcdkgccmmfjnhaaDoorW.PrintMore Go.Proofs.YtcdkgccmmfjnhaaDoor.QUnpackTruncation
set_option linter.unusedVariables false
set_option linter.unusedSimpArgs false
set_option maxRecDepth 10000

theorem wordsS_take : ∀ (n : Nat) (q : List Int), q.length ≤ n → ∀ j, ∃ i, wordsS (q.take j) = (wordsS q).take i := by
  intro n
  induction n with
  | zero => intro q hq j; have : q = [] := List.length_eq_zero_iff.mp (by omega)
            subst this; exact ⟨0, by simp [wordsS]⟩
  | succ n ih =>
    intro q hq j
    by_cases h : (q.take j).length < 8
    · exact ⟨0, by rw [wordsS_short h, List.take_zero]⟩
    · rw [List.length_take] at h
      obtain ⟨i, hi⟩ := ih (q.drop 8) (by rw [List.length_drop]; omega) (j - 8)
      refine ⟨i + 1, ?_⟩
      rw [wordsS_long (b := q.take j) (by rw [List.length_take]; omega), wordsS_long (b := q) (by omega), List.take_succ_cons, List.take_take, show min 8 j = 8 by omega, List.drop_take, hi]
theorem take_in {W D X : List Int} {i : Nat} (h : X = W.take i) : ∃ i', X = (W ++ D).take i' := ⟨min i W.length, by rw [List.take_append_of_le_length (by omega), h, List.take_eq_take_min]⟩
theorem dec_take : ∀ (n : Nat) (p : List Int), p.length ≤ n → ∀ k, ∃ i, (decS (p.take k)).1 = (decS p).1.take i := by
  intro n
  induction n with
  | zero => intro p hp k; have : p = [] := List.length_eq_zero_iff.mp (by omega)
            subst this; exact ⟨0, by simp [decS_nil]⟩
  | succ n ih =>
    intro p hp k
    cases p with
    | nil => exact ⟨0, by simp [decS_nil]⟩
    | cons t r =>
      rw [List.length_cons] at hp
      cases k with
      | zero => exact ⟨0, by rw [List.take_zero, decS_nil, List.take_zero]⟩
      | succ k =>
        rw [List.take_succ_cons]
        by_cases h0 : t = 0
        · subst h0
          cases r with
          | nil => exact ⟨0, by rw [List.take_nil, decS_zero_end, List.take_nil]⟩
          | cons c q =>
            rw [List.length_cons] at hp
            cases k with
            | zero => exact ⟨0, by rw [List.take_zero, decS_zero_end, List.take_zero]⟩
            | succ k =>
              obtain ⟨i, hi⟩ := ih q (by omega) k
              rw [List.take_succ_cons, decS_zero, decS_zero, hi]
              exact ⟨(List.replicate (c.toNat + 1) (0 : Int)).length + i, by rw [List.take_length_add_append]⟩
        · by_cases hs : (r.take k).length < onesS t
          · exact ⟨0, by rw [decS_short h0 hs, List.take_zero]⟩
          · rw [List.length_take] at hs
            by_cases h1 : t = 255
            · subst h1
              rw [onesS_255] at hs
              have hx : expS 255 (r.take k) = expS 255 r := by rw [Un.expS_255 (by rw [List.length_take]; omega), Un.expS_255 (by omega), List.take_take, show min 8 k = 8 by omega]
              -- the whole form
              have whole : r.length = 8 ∨ ∃ c q, r = r.take 8 ++ c :: q ∧ q = r.drop 9 := by
                rcases Nat.lt_or_ge 8 r.length with h9 | h9
                · exact .inr ⟨r[8], r.drop 9, by rw [← List.drop_eq_getElem_cons (by omega), List.take_append_drop], rfl⟩
                · exact .inl (by omega)
              rcases whole with h8 | ⟨c, q, e, hq⟩
              · rw [List.take_of_length_le (by omega)]
                exact ⟨(decS (255 :: r)).1.length, by rw [List.take_length]⟩
              · have hl : (r.take 8).length = 8 := by rw [List.length_take]; omega
                have hf := decS_full (c := c) (q := q) hl
                rw [← e, show expS 255 (r.take 8) = expS 255 r by rw [Un.expS_255 (by omega), Un.expS_255 (by omega), List.take_take, show min 8 8 = 8 from rfl]] at hf
                rcases Nat.lt_or_ge 8 k with hk | hk
                · -- the count is there
                  have e' : r.take k = (r.take k).take 8 ++ c :: q.take (k - 9) := by
                    conv => lhs; rw [e]
                    rw [List.take_append, hl, List.take_of_length_le (by omega), List.take_take, show min 8 k = 8 by omega, show k - 8 = (k - 9) + 1 by omega, List.take_succ_cons]
                  have hl' : ((r.take k).take 8).length = 8 := by rw [List.length_take, List.length_take]; omega
                  have hf' := decS_full (c := c) (q := q.take (k - 9)) hl'
                  rw [← e', show expS 255 ((r.take k).take 8) = expS 255 r by rw [Un.expS_255 (by omega), Un.expS_255 (by omega), List.take_take, List.take_take, show min (min 8 8) k = 8 by omega]] at hf'
                  have hql : q.length = r.length - 9 := by rw [hq, List.length_drop]
                  rw [hf, hf']
                  by_cases ha : (q.take (k - 9)).length < 8 * c.toNat
                  · rw [if_pos ha]
                    rw [List.length_take] at ha
                    by_cases hb : q.length < 8 * c.toNat
                    · rw [if_pos hb]
                      obtain ⟨i, hi⟩ := wordsS_take q.length q (Nat.le_refl _) (k - 9)
                      exact ⟨i + 1, by rw [hi]; rfl⟩
                    · rw [if_neg hb]
                      obtain ⟨i, hi⟩ := wordsS_take (q.take (8 * c.toNat)).length (q.take (8 * c.toNat)) (Nat.le_refl _) (k - 9)
                      rw [List.take_take, show min (k - 9) (8 * c.toNat) = k - 9 by omega] at hi
                      obtain ⟨i', hi'⟩ := take_in (D := (decS (q.drop (8 * c.toNat))).1) hi
                      exact ⟨i' + 1, by rw [hi']; rfl⟩
                  · rw [if_neg ha]
                    rw [List.length_take] at ha
                    rw [if_neg (by omega), List.take_take, show min (8 * c.toNat) (k - 9) = 8 * c.toNat by omega, List.drop_take]
                    obtain ⟨i, hi⟩ := ih (q.drop (8 * c.toNat)) (by rw [List.length_drop]; omega) (k - 9 - 8 * c.toNat)
                    rw [hi]
                    exact ⟨(wordsS (q.take (8 * c.toNat))).length + i + 1, by rw [List.take_succ_cons, List.take_length_add_append]⟩
                · rw [decS_full_end (p := r.take k) (by rw [List.length_take]; omega), hx, hf]
                  refine ⟨1, ?_⟩
                  split <;> rfl
            · have hx : expS t (r.take k) = expS t r := by rw [expS, expF_take 8 t r k (by show onesS t ≤ k; omega)]; rfl
              obtain ⟨i, hi⟩ := ih (r.drop (onesS t)) (by rw [List.length_drop]; omega) (k - onesS t)
              rw [decS_tag h0 h1 (by rw [List.length_take]; omega), decS_tag h0 h1 (by omega), hx, List.drop_take, hi]
              exact ⟨i + 1, rfl⟩

theorem UnpackTruncation : capnplaw22_UnpackTruncation.Pure := by
  intro a b n h1 h2 h3 h4 h5 h6 h7
  have hA : IsW a := fun x hx => wf_u64 (h3 x hx)
  have hB : IsW b := fun x hx => wf_u64 (h6 x hx)
  obtain ⟨n0, n1⟩ := wf_u16 h7
  apply Ev.rounds
  unfold capnplaw22_UnpackTruncation.f
  refine Ev.bind awake22 (Ev.congr (fun k => if_pos rfl) ?_)
  by_cases hl : (a.length : Int) > 600
  · exact Ev.congr (fun k => if_pos hl) (Ev.step (fun k => by simp only [capnplaw22_UnpackTruncation.j0]; rfl) (Ev.bind awake22 (Ev.now _)))
  refine Ev.congr (fun k => if_neg hl) ?_
  by_cases hl2 : (b.length : Int) > 600
  · rw [decide_eq_true hl2]
    exact Ev.step (fun k => by simp only [capnplaw22_UnpackTruncation.j0]; rfl) (Ev.bind awake22 (Ev.now _))
  rw [decide_eq_false hl2]
  have pa := packS_length_le a
  have pb := packS_length_le b
  obtain ⟨N, hN⟩ : ∃ N : Nat, n = (N : Int) := ⟨n.toNat, by omega⟩
  have hpl : wrap64 (((packS a).length : Int) + 1) = (((packS a).length + 1 : Nat) : Int) := by rw [w64 (by omega) (by omega)]; omega
  have hk : Int.tmod (wrap64 n) (wrap64 (((packS a).length : Int) + 1)) = ((N % ((packS a).length + 1) : Nat) : Int) := by
    rw [hpl, w64 (x := n) (by omega) (by omega), hN, Int.tmod_eq_emod_of_nonneg (by omega)]; rfl
  obtain ⟨k, hkk⟩ : ∃ k, k = N % ((packS a).length + 1) := ⟨_, rfl⟩
  have hkle : k ≤ (packS a).length := by have := Nat.mod_lt N (show 0 < (packS a).length + 1 by omega); omega
  rw [← hkk] at hk
  have hIB := packS_isB a
  obtain ⟨i, hi⟩ := dec_take (packS a).length (packS a) (Nat.le_refl _) k
  rw [dec_packS hA] at hi
  have hi' : (decS ((packS a).take k)).1 = a.take i := hi
  have hP := unPrefixE (hIB.take k) (by rw [List.length_take]; omega) 1073741824 (by omega)
  rw [hi', show (max (1073741824 : Int) 0 / 8).toNat = 134217728 from rfl, List.take_take] at hP
  have hcl : (a.take i).length ≤ 600 := by rw [List.length_take]; omega
  rw [if_neg (by omega)] at hP
  obtain ⟨i2, hi2⟩ : ∃ i2, i2 = min 134217728 i := ⟨_, rfl⟩
  rw [← hi2] at hP
  obtain ⟨code, hcode⟩ : ∃ code : Int, code = if (decS ((packS a).take k)).2 = true then 10 else 0 := ⟨_, rfl⟩
  rw [← hcode] at hP
  have hc11 : ¬ code = 11 := by rw [hcode]; split <;> decide
  have hpre : bytesS (a.take i2) = (bytesS a).take (bytesS (a.take i2)).length := by
    have : bytesS a = bytesS (a.take i2) ++ bytesS (a.drop i2) := by rw [← bytesS_append, List.take_append_drop]
    rw [this, List.take_left]
  have ble : (bytesS (a.take i2)).length ≤ (bytesS a).length := by rw [bytesS_length, bytesS_length, List.length_take]; omega
  have bla := bytesS_length a
  have blb := bytesS_length b
  have hj1 : Ev (fun k => capnplaw22_UnpackTruncation.j1 k b (packS a) (packS b) (bytesS a) false) true := by
    have hBB : IsB (packS a ++ packS b) := hIB.append (packS_isB b)
    have hU := unBytesE hBB (by rw [List.length_append]; omega) 1073741824 (by omega)
    rw [show decS (packS a ++ packS b) = (a ++ b, false) by rw [dec_pack (packS b) a.length a (Nat.le_refl _) hA, dec_packS hB]] at hU
    simp only [Bool.false_eq_true, if_false] at hU
    rw [if_neg (by rw [show (max (1073741824 : Int) 0 / 8).toNat = 134217728 from rfl, List.length_append]; omega)] at hU
    refine Ev.step (fun k => by simp only [capnplaw22_UnpackTruncation.j1]; rw [if_neg (by simp), Option.bind_some, if_pos (by simp; omega), Option.bind_some, if_pos (by simp; omega), List.nil_append]) (Ev.bind hU (Ev.congr (fun k => if_pos rfl) ?_))
    simp only [Option.bind_some, List.nil_append, List.length_nil, Nat.zero_add]
    refine Ev.congr (fun k => if_pos (by omega)) (Ev.bind (refBytes b hB (by omega)) (Ev.congr (fun k => if_pos (by omega)) (Ev.bind (refSame _ _ (by rw [bytesS_length, List.length_append]; omega)) ?_)))
    rw [bytesS_append, decide_eq_true rfl]
    exact Ev.now _
  refine Ev.step (fun k => by simp only [capnplaw22_UnpackTruncation.j0]; rw [if_neg (by simp)]) (Ev.bind (ref21Words a hA (by omega)) (Ev.bind (ref21Words b hB (by omega)) ?_))
  rw [hk]
  refine Ev.congr (fun k => if_neg (by rw [hpl]; omega)) (Ev.congr (fun k => if_pos (by omega)) (Ev.congr (fun k => if_pos (by omega)) ?_))
  rw [Int.toNat_natCast]
  refine Ev.bind hP (Ev.bind (refBytes a hA (by omega)) ?_)
  dsimp only
  refine Ev.congr (fun k => if_neg (by omega)) (Ev.congr (fun k => if_pos (by omega)) (Ev.congr (fun k => if_pos (by omega)) ?_))
  rw [Int.toNat_natCast, ← hpre]
  refine Ev.bind (refSame _ _ (by omega)) ?_
  rw [decide_eq_true rfl]
  refine Ev.congr (fun k => if_pos rfl) (Ev.congr (fun k => if_neg hc11) ?_)
  by_cases hkl : (k : Int) = ((packS a).length : Int)
  · refine Ev.congr (fun k => if_pos hkl) ?_
    have : code = 0 := by rw [hcode, List.take_of_length_le (by omega), dec_packS hA]; rfl
    rw [this]
    exact hj1
  · exact Ev.congr (fun k => if_neg hkl) hj1
end Go.Proofs.YtcdkgccmmfjnhaaDoor.Pure
