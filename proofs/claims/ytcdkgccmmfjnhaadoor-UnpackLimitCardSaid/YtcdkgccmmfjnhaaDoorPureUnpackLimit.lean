/- The law UnpackLimit: the output is a whole number of words and never exceeds the limit; ErrLimit is returned exactly if the decodable words exceed it; a larger limit keeps a successful result. -/
import Derived.Test.YtcdkgccmmfjnhaaDoorQUnpackLimit
namespace Go.Proofs.YtcdkgccmmfjnhaaDoor.Pure
open Go Go.RowKit Go.Proofs.YtcdkgccmmfjnhaaDoor.M Go.Proofs.YtcdkgccmmfjnhaaDoor.PUnpackLimit Go.Proofs.YtcdkgccmmfjnhaaDoorW.PrintWords Go.Proofs.YtcdkgccmmfjnhaaDoorW.PrintLast Go.Proofs.YtcdkgccmmfjnhaaDoorW.PrintMore Go.Proofs.YtcdkgccmmfjnhaaDoor.QUnpackLimit
set_option linter.unusedVariables false
set_option linter.unusedSimpArgs false
set_option maxRecDepth 10000

theorem limit_j2 (p : List Int) (a n : Int) (out : List Int) (code : Int) : Ev (fun k => capnplaw22_UnpackLimit.j2 k p a n out code true) true :=
  Ev.step (f := fun _ => some true) (fun k => by simp only [capnplaw22_UnpackLimit.j2]; rfl) (Ev.now _)
theorem UnpackLimit : capnplaw22_UnpackLimit.Pure := by
  intro p a n h1 h2 h3 h4 h5
  have hB : IsB p := fun x hx => wf_u8 (h3 x hx)
  obtain ⟨a0, a1⟩ := wf_i64 h4
  obtain ⟨n0, n1⟩ := wf_u16 h5
  apply Ev.rounds
  unfold capnplaw22_UnpackLimit.f
  refine Ev.bind awake22 (Ev.congr (fun k => if_pos rfl) ?_)
  by_cases hl : (p.length : Int) > 400
  · rw [decide_eq_true hl]
    exact Ev.step (fun k => by simp only [capnplaw22_UnpackLimit.j0]; rfl) (Ev.bind awake22 (Ev.now _))
  · rw [decide_eq_false hl]
    have hlen := decS_len hB
    have hm : mx a 0 = max a 0 := by unfold mx; omega
    obtain ⟨ws, cut, hd⟩ : ∃ ws cut, decS p = (ws, cut) := ⟨_, _, rfl⟩
    have hP := unPrefixE hB (by omega) a (by omega)
    have hD := refDecodable hB (by omega)
    rw [hd] at hP hD hlen
    simp only at hP hD hlen
    have hol : ((bytesS (ws.take (max a 0 / 8).toNat)).length : Int) = 8 * (min (max a 0 / 8).toNat ws.length : Nat) := by rw [bytesS_length, List.length_take]; omega
    have hw : wrap64 (8 * (ws.length : Int)) = 8 * (ws.length : Int) := w64 (by omega) (by omega)
    refine Ev.step (fun k => by simp only [capnplaw22_UnpackLimit.j0]; rw [if_neg (by simp)]) ?_
    by_cases hc : (max a 0 / 8).toNat < ws.length
    · simp only [if_pos hc] at hP
      refine Ev.bind hP (Ev.bind hD ?_)
      dsimp only
      refine Ev.congr (fun k => if_pos (by rw [hol]; omega)) ?_
      refine Ev.congr (fun k => if_neg (by rw [hol, hm]; omega)) ?_
      refine Ev.congr (fun k => if_neg (by rw [hw, hm, decide_eq_true (show 8 * (ws.length : Int) > max a 0 by omega)]; decide)) ?_
      refine Ev.congr (fun k => if_neg (by decide)) ?_
      refine Ev.congr (fun k => if_neg (by decide)) ?_
      refine Ev.step (fun k => by simp only [capnplaw22_UnpackLimit.j1]; rw [if_neg (by simp)]) ?_
      by_cases hb : a > 1099511627776
      · exact Ev.congr (fun k => if_pos hb) (limit_j2 _ _ _ _ _)
      · exact Ev.congr (fun k => if_neg hb) (limit_j2 _ _ _ _ _)
    · have tail : ∀ code : Int, (code == 11) = false → code = (if cut = true then 10 else 0) → Ev (fun k => capnplaw22_UnpackLimit.j1 k p a n (bytesS (ws.take (max a 0 / 8).toNat)) code false) true := by
        intro code he hcode
        refine Ev.step (fun k => by simp only [capnplaw22_UnpackLimit.j1]; rw [if_neg (by simp), he]) ?_
        by_cases hb : a > 1099511627776
        · exact Ev.congr (fun k => if_pos hb) (limit_j2 _ _ _ _ _)
        · refine Ev.congr (fun k => if_neg hb) ?_
          have hP2 := unPrefixE hB (by omega) (max a 0 + n) (by omega)
          rw [hd] at hP2
          simp only at hP2
          rw [if_neg (by omega), ← hcode, List.take_of_length_le (by omega)] at hP2
          rw [List.take_of_length_le (by omega)]
          refine Ev.step (fun k => by simp only [capnplaw22_UnpackLimit.j2]; rw [if_neg (by simp), hm, w64 (x := n) (by omega) (by omega), w64 (by omega) (by omega)]) (Ev.bind hP2 ?_)
          refine Ev.congr (fun k => if_pos rfl) (Ev.bind (refSame _ _ (by rw [bytesS_length]; omega)) ?_)
          rw [decide_eq_true rfl]
          exact Ev.now _
      simp only [if_neg hc] at hP
      have hf : decide (8 * (ws.length : Int) > max a 0) = false := decide_eq_false (by omega)
      cases cut with
      | true =>
        have t := tail 10 (by decide) rfl
        simp only [if_true] at hP
        refine Ev.bind hP (Ev.bind hD ?_)
        dsimp only
        refine Ev.congr (fun k => if_pos (by rw [hol]; omega)) ?_
        refine Ev.congr (fun k => if_neg (by rw [hol, hm]; omega)) ?_
        refine Ev.congr (fun k => if_neg (by rw [hw, hm, hf]; decide)) ?_
        refine Ev.congr (fun k => if_pos rfl) ?_
        refine Ev.congr (fun k => if_pos rfl) ?_
        refine Ev.congr (fun k => if_neg (by decide)) ?_
        exact t
      | false =>
        have t := tail 0 (by decide) rfl
        simp only [Bool.false_eq_true, if_false] at hP
        refine Ev.bind hP (Ev.bind hD ?_)
        dsimp only
        refine Ev.congr (fun k => if_pos (by rw [hol]; omega)) ?_
        refine Ev.congr (fun k => if_neg (by rw [hol, hm]; omega)) ?_
        refine Ev.congr (fun k => if_neg (by rw [hw, hm, hf]; decide)) ?_
        refine Ev.congr (fun k => if_neg (by decide)) ?_
        refine Ev.congr (fun k => if_pos rfl) ?_
        exact t
end Go.Proofs.YtcdkgccmmfjnhaaDoor.Pure
