/- The law WordRoundTrip: for word lists of at most 200 words and byte slices of at most 1000 bytes, Words(Bytes(l)) is l, each word is also returned by Get, and Bytes(Words(b)) is b if the length of b is a multiple of 8. -/
import Derived.Test.YtipimnidbopaoaaQWordRoundTrip
namespace Go.Proofs.Ytipimnidbopaoaa.Pure
open Go Go.RowKit Go.Proofs.Ytipimnidbopaoaa.M Go.Proofs.Ytipimnidbopaoaa.PWordRoundTrip Go.Proofs.YtipimnidbopaoaaW.PrintWords Go.Proofs.YtipimnidbopaoaaW.PrintLast Go.Proofs.YtipimnidbopaoaaW.PrintMore Go.Proofs.Ytipimnidbopaoaa.QWordRoundTrip
set_option linter.unusedVariables false
set_option linter.unusedSimpArgs false
set_option maxRecDepth 10000

theorem r_back (b : List Int) (hB : IsB b) (hb : b.length ≤ 1000) : Ev (fun k => (word_Words.f k b).bind fun bt182 => (if (bt182.2 == (((b.length : Int) % 8) == 0)) = true then (if bt182.2 = true then ((word_Bytes.f k bt182.1).bind fun t186 => ((capnpref01_Same.f k t186 b).bind fun t189 => (some t189))) else (if (bt182.1.length : Int) = 0 then (some true) else (some false))) else (some false))) true := by
  by_cases h : b.length % 8 = 0
  · refine Ev.bind (wordWords_yes b hB (by omega) h) (Ev.congr (fun k => if_pos ?_) (Ev.congr (fun k => if_pos (by simp)) ?_))
    · simp; omega
    · refine Ev.bind (wordBytes _ (by rw [wordsS_length]; omega)) (Ev.bind (refSame _ _ (by rw [bytesS_length, wordsS_length]; omega)) ?_)
      rw [bytesS_wordsS (b.length / 8) b (by omega) hB]
      simpa using Ev.now true
  · refine Ev.bind (wordWords_no b h) (Ev.congr (fun k => if_pos ?_) (Ev.congr (fun k => if_neg (by simp)) (Ev.congr (fun k => if_pos (by simp)) (Ev.now _))))
    simp; omega
theorem r_j1 (l b : List Int) (a : Int) (hW : IsW l) (hl : l.length ≤ 200) (hB : IsB b) (hb : b.length ≤ 1000) (ha : 0 ≤ a ∧ a < 256) : Ev (fun k => capnplaw01_WordRoundTrip.j1 k l b a (bytesS l) false) true := by
  refine Ev.step (fun k => by simp only [capnplaw01_WordRoundTrip.j1]; rfl) (Ev.congr (fun k => if_neg (by simp)) ?_)
  by_cases h : (l.length : Int) > 0
  · obtain ⟨A, rfl⟩ := Int.eq_ofNat_of_zero_le ha.1
    have hi : A % l.length < l.length := Nat.mod_lt _ (by omega)
    have e : Int.tmod (wrap64 (A : Int)) (l.length : Int) = ((A % l.length : Nat) : Int) := by
      rw [w64 (by omega) (by omega), Int.tmod_eq_emod_of_nonneg (by omega)]; rfl
    rw [e]
    refine Ev.congr (fun k => if_pos h) (Ev.congr (fun k => if_neg (by omega)) (Ev.bind (wordGet_yes (bytesS l) (bytesS_B l) _ (by rw [bytesS_length]; omega) (by rw [bytesS_length]; omega)) (Ev.congr (fun k => if_pos (by simp)) (Ev.congr (fun k => if_pos (by omega)) (Ev.congr (fun k => if_pos (by omega)) ?_)))))
    rw [getS_bytesS hW hi]
    refine Ev.step (fun k => by simp only [capnplaw01_WordRoundTrip.j2]; rfl) (Ev.congr (fun k => if_neg (by simp)) ?_)
    exact r_back b hB hb
  · exact Ev.congr (fun k => if_neg h) (r_back b hB hb)
theorem WordRoundTrip : capnplaw01_WordRoundTrip.Pure := by
  intro l b a _ _ hw _ _ hb w2
  apply Ev.rounds
  unfold capnplaw01_WordRoundTrip.f
  refine Ev.bind awake01 (Ev.congr (fun k => if_pos (by simp)) ?_)
  have yes : Ev (fun k => capnplaw01_WordRoundTrip.j0 k l b a true) true :=
    Ev.step (fun k => by simp only [capnplaw01_WordRoundTrip.j0]; rfl) (Ev.bind awake01 (Ev.now _))
  by_cases h0 : (b.length : Int) > 1000
  · exact Ev.congr (fun k => if_pos h0) yes
  · refine Ev.congr (fun k => if_neg h0) ?_
    by_cases h2 : (l.length : Int) > 200
    · rw [decide_eq_true h2]; exact yes
    · rw [decide_eq_false h2]
      have hW := isW_of hw
      have hB8 := bytesS_length l
      refine Ev.step (fun k => by simp only [capnplaw01_WordRoundTrip.j0]; rfl) (Ev.congr (fun k => if_neg (by simp)) ?_)
      refine Ev.bind (wordBytes l (by omega)) (Ev.bind (wordWords_yes _ (bytesS_B l) (by omega) (by omega)) (Ev.congr (fun k => if_pos ?_) (Ev.congr (fun k => if_pos (by simp)) (Ev.bind (refSameWords _ _ (by simp only [wordsS_length]; omega)) ?_))))
      · rw [w64 (by omega) (by omega)]; omega
      · rw [wordsS_bytesS l hW, decide_eq_true rfl]
        exact r_j1 l b a hW (by omega) (isB_of hb) (by omega) (wf_u8 w2)
end Go.Proofs.Ytipimnidbopaoaa.Pure
