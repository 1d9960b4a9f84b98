/- The law PackstreamHolds: after every input, the state is valid and holds at most 2047 bytes, and what was output is a prefix of the packed form of every continuation. -/
import Derived.Test.YtibkbgaonjdpiaaQPackstreamHolds
namespace Go.Proofs.Ytibkbgaonjdpiaa.Pure
open Go Go.RowKit Go.Proofs.Ytibkbgaonjdpiaa Go.Proofs.Ytibkbgaonjdpiaa.M Go.Proofs.Ytibkbgaonjdpiaa.PPackstreamHolds Go.Proofs.YtibkbgaonjdpiaaW.PrintWords Go.Proofs.YtibkbgaonjdpiaaW.PrintLast Go.Proofs.YtibkbgaonjdpiaaW.PrintMore
open Go.Proofs.Ytibkbgaonjdpiaa.QPaBase (or_val wordGet_step chunk_rd wordGet_l0 wordGet_yes wordGet_no wordWords_l0 wordWords_yes wordWords_no wordBytes_l1 wordBytes_l0 wordBytes tagOf_step or_tag tagOf_l0 tagOf bitsOnes_all bitsOnes tagOnes tagDense tagBytes_l0 tagBytes)
open Go.Proofs.Ytibkbgaonjdpiaa.PPaBase
open Go.Proofs.Ytibkbgaonjdpiaa.QPackstreamHolds
set_option linter.unusedVariables false
set_option linter.unusedSimpArgs false
set_option maxRecDepth 10000
set_option maxHeartbeats 1000000

theorem PackstreamHolds : capnplaw24_PackstreamHolds.Pure := by
  intro a b h1 h2 h3 h4 h5 h6
  have hB : IsB a := fun x hx => wf_u8 (h3 x hx)
  have hW : IsW b := fun x hx => wf_u64 (h6 x hx)
  apply Ev.rounds
  unfold capnplaw24_PackstreamHolds.f
  refine Ev.bind awake24 (Ev.congr (fun k => if_pos rfl) ?_)
  have out : Ev (fun k => capnplaw24_PackstreamHolds.j0 k a b true) true := Ev.step (f := fun k => (capnplaw24_awake.f k).bind fun t => some t) (fun k => by simp only [capnplaw24_PackstreamHolds.j0]; rfl) (Ev.bind awake24 (Ev.now _))
  by_cases hl : (a.length : Int) > 8000
  · exact Ev.congr (fun k => if_pos hl) out
  · refine Ev.congr (fun k => if_neg hl) ?_
    by_cases hl2 : (b.length : Int) > 600
    · rw [decide_eq_true hl2]; exact out
    · rw [decide_eq_false hl2]
      obtain ⟨M, hM⟩ : ∃ M : Nat, M = a.length / 8 * 8 := ⟨_, rfl⟩
      have hMa : M ≤ a.length ∧ M % 8 = 0 ∧ a.length - M < 8 := by omega
      have hN : wrap64 ((a.length : Int) - ((a.length : Int) % 8)) = (M : Int) := by rw [w64 (by omega) (by omega)]; omega
      obtain ⟨ws, hws⟩ : ∃ ws : List Int, ws = wordsS (a.take M) := ⟨_, rfl⟩
      have hwW : IsW ws := by rw [hws]; exact wordsS_W (hB.take M)
      have hwl : ws.length ≤ 1000 := by rw [hws, wordsS_length, List.length_take]; omega
      have hw := pkWrite (n := 0) (rw := []) (p := []) (b := a) (Ps.Inv.nil 255) IsW.nil (by simp) IsB.nil hB (by omega)
      simp only [List.nil_append] at hw
      rw [← hM, ← hws] at hw
      have hk := (Ps.run_ok ws 0 [] [] (Ps.Inv.nil _) hwW).1
      have hkW := Ps.runW_W ws (0, [], []) IsW.nil hwW
      obtain ⟨q, hq⟩ := Ps.run_prefix hwW b
      obtain ⟨s, hs⟩ : ∃ s, s = Ps.runW ws (0, [], []) := ⟨_, rfl⟩
      rw [← hs] at hw hk hkW hq
      obtain ⟨z, r, o⟩ := s
      dsimp only at hk hkW hq
      have hv := Ps.V_of_Inv (p := a.drop M) hk hkW (by rw [List.length_drop]; omega)
      have hrM := hk.rM
      refine Ev.step (f := fun k => (capnpref01_Words.f k (a.take M)).bind fun bt357 => (if bt357.1.length + b.length < 17592186044416 then ((capnpref21_Words.f k (bt357.1 ++ b)).bind fun t364 => ((packstream_Valid.f k (a.drop M) (z : Int) (bytesS r)).bind fun t367 => (if t367 = true then (if (wrap64 (((a.drop M).length : Int) + ((bytesS r).length : Int))) ≤ 2047 then (if ((a.drop M).length : Int) = (wrap64 ((a.length : Int) - (M : Int))) then (if (o.length : Int) ≤ (t364.length : Int) then (if 0 ≤ (o.length : Int) then ((capnpref01_Same.f k o (t364.take ((o.length : Int) : Int).toNat)).bind fun t372 => (some t372)) else (none)) else (none)) else (none)) else (none)) else (none)))) else (none))) (fun k => ?_) ?_
      · simp only [capnplaw24_PackstreamHolds.j0]
        rw [if_neg (by decide), show packstream_New.f = some ([], 0, []) from rfl, Option.bind_some, show packstream_Write.f [] 0 [] a = _ from hw, Option.bind_some, hN, if_pos (by omega), if_pos (by omega)]
        rfl
      · refine Ev.bind (refWords_yes (a.take M) (hB.take M) (by rw [List.length_take]; omega) (by rw [List.length_take]; omega)) ?_
        rw [← hws]
        refine Ev.congr (fun k => if_pos (show ws.length + b.length < 17592186044416 by omega)) (Ev.bind (ref21Words (ws ++ b) (hwW.append hW) (by rw [List.length_append]; omega)) ?_)
        refine Ev.bind (Ps.packValid (a.drop M) (z : Int) (bytesS_B r) (by rw [bytesS_length]; omega) (by rw [List.length_drop]; omega)) ?_
        have hdl : (a.drop M).length = a.length - M := List.length_drop
        have hol : o.length ≤ (packS (ws ++ b)).length := by rw [hq, List.length_append]; omega
        have hbl := bytesS_length r
        refine Ev.congr (fun k => if_pos hv) (Ev.congr (fun k => if_pos (by rw [w64 (by omega) (by omega)]; omega)) (Ev.congr (fun k => if_pos (by rw [w64 (by omega) (by omega)]; omega)) (Ev.congr (fun k => if_pos (by omega)) (Ev.congr (fun k => if_pos (by omega)) ?_))))
        have hsm := refSame o ((packS (ws ++ b)).take o.length) (by
          have := packS_length_le (ws ++ b); rw [List.length_append] at this; omega)
        rw [Int.toNat_natCast]
        have e : (packS (ws ++ b)).take o.length = o := by rw [hq, List.take_append_of_le_length (Nat.le_refl _), List.take_length]
        rw [e] at hsm ⊢
        rw [decide_eq_true rfl] at hsm
        exact Ev.bind hsm (Ev.now _)
end Go.Proofs.Ytibkbgaonjdpiaa.Pure
