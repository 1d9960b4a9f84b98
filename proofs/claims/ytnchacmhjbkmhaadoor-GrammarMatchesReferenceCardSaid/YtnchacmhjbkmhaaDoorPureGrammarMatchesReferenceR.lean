/- The law GrammarMatchesReference: for every byte sequence and list of words, all functions return what the reference implementation returns. -/
import Derived.Test.YtnchacmhjbkmhaaDoorQGrammarMatchesReferenceR
namespace Go.Proofs.YtnchacmhjbkmhaaDoor.Pure
open Go Go.RowKit Go.Proofs.YtnchacmhjbkmhaaDoor Go.Proofs.YtnchacmhjbkmhaaDoor.M Go.Proofs.YtnchacmhjbkmhaaDoor.PGrammarMatchesReference Go.Proofs.YtnchacmhjbkmhaaDoorW.PrintWords Go.Proofs.YtnchacmhjbkmhaaDoorW.PrintLast Go.Proofs.YtnchacmhjbkmhaaDoorW.PrintMore
open Go.Proofs.YtnchacmhjbkmhaaDoor.QUnBase (bitsOnes_all bitsOnes tagOnes wordMask wordInsert and_tag insert_byte tagExpand_yes tagExpand wordBytes_l1 wordBytes_l0 wordBytes)
open Go.Proofs.YtnchacmhjbkmhaaDoor.QOfBase (tagOf_step or_tag tagOf_l0 tagOf)
open Go.Proofs.YtnchacmhjbkmhaaDoor.PUnBase
open Go.Proofs.YtnchacmhjbkmhaaDoor.POfBase (tagbyte_Of.f tagbyte_Of.calls tagbyte_Of.mono tagbyte_Of.mono_l)
open Go.Proofs.YtnchacmhjbkmhaaDoor.QGrammarMatchesReference
set_option linter.unusedVariables false
set_option linter.unusedSimpArgs false
set_option maxRecDepth 10000
set_option maxHeartbeats 1000000
theorem gm_l0 (p ws : List Int) (L : List S33) (hL : L.length ≤ 1000000) (r : Bool) (h : Ev (fun k => (grammar_Accepts.f k p ws).bind fun t481 => ((capnpref23_Accepts.f k p ws).bind fun t482 => (if (t481 == t482) = true then ((grammar_Canonical.f k p).bind fun t483 => ((capnpref23_Canonical.f k p).bind fun t484 => (if (t483 == t484) = true then ((grammar_Ways.f ws).bind fun t485 => ((capnpref23_Ways.f k ws).bind fun t486 => (if t485 = t486 then ((grammar_Shortest.f ws).bind fun t487 => ((capnpref23_Shortest.f k ws).bind fun t488 => (some (t487 == t488)))) else (none)))) else (none)))) else (none)))) r) : ∀ d i : Nat, i + d = L.length → Ev (fun k => capnplaw23_GrammarMatchesReference.l0 k p ws L (L.map cv34) (i : Int)) r := by
  intro d
  induction d with
  | zero =>
    intro i hi
    refine Ev.step (fun k => ?_) h
    simp only [capnplaw23_GrammarMatchesReference.l0]
    rw [if_neg (by omega)]
  | succ d ih =>
    intro i hi
    have hlt : i < L.length := by omega
    have h33 : rd_T33 L (i : Int) = L[i] := by simp [rd_T33, List.getD_eq_getElem?_getD, List.getElem?_eq_getElem hlt]
    have h34 : rd_T34 (L.map cv34) (i : Int) = cv34 L[i] := by simp [rd_T34, List.getD_eq_getElem?_getD, List.getElem?_eq_getElem hlt]
    refine Ev.step (fun k => ?_) (ih (i + 1) (by omega))
    simp only [capnplaw23_GrammarMatchesReference.l0, h33, h34, cv34]
    rw [if_pos (by omega), if_pos (by omega), if_pos (by rw [List.length_map]; omega), if_neg (by simp), wrap_succ i (by omega)]
theorem GrammarMatchesReference : capnplaw23_GrammarMatchesReference.Pure := by
  intro p ws h1 h2 h3 h4 h5 h6
  have hB : IsB p := fun x hx => wf_u8 (h3 x hx)
  have hW : IsW ws := fun x hx => wf_u64 (h6 x hx)
  apply Ev.rounds
  unfold capnplaw23_GrammarMatchesReference.f
  refine Ev.bind awake23 (Ev.congr (fun k => if_pos rfl) ?_)
  have out : Ev (fun k => capnplaw23_GrammarMatchesReference.j0 k p ws true) true := Ev.step (f := fun k => (capnplaw23_awake.f k).bind fun t => some t) (fun k => by simp only [capnplaw23_GrammarMatchesReference.j0]; rfl) (Ev.bind awake23 (Ev.now _))
  by_cases hl : (p.length : Int) > 300
  · exact Ev.congr (fun k => if_pos hl) out
  · refine Ev.congr (fun k => if_neg hl) ?_
    by_cases hl2 : (ws.length : Int) > 300
    · rw [decide_eq_true hl2]; exact out
    · rw [decide_eq_false hl2]
      have lp : p.length ≤ 300 := by omega
      have lw : ws.length ≤ 300 := by omega
      have hA := gramAccepts hB (by omega) hW (by omega)
      have hA2 := refAccepts (ws := ws) hB (by omega)
      have hC := gramCanonical hB (by omega)
      have hC2 := refCanonical hB (by omega)
      have hY := gramWays hW (by omega)
      have hY2 := refWays hW (by omega)
      have hZ := gramShortest hW (by omega)
      have hZ2 := refShortest hW (by omega)
      have v1 : waysV ws = UnWays.Dv ws := UnWays.value_eq ws
      have v2 : shortV ws = UnShortest.Dv ws := UnShortest.value_eq ws
      rw [v1] at hY
      rw [v2] at hZ
      have tail : Ev (fun k => (grammar_Accepts.f k p ws).bind fun t481 => ((capnpref23_Accepts.f k p ws).bind fun t482 => (if (t481 == t482) = true then ((grammar_Canonical.f k p).bind fun t483 => ((capnpref23_Canonical.f k p).bind fun t484 => (if (t483 == t484) = true then ((grammar_Ways.f ws).bind fun t485 => ((capnpref23_Ways.f k ws).bind fun t486 => (if t485 = t486 then ((grammar_Shortest.f ws).bind fun t487 => ((capnpref23_Shortest.f k ws).bind fun t488 => (some (t487 == t488)))) else (none)))) else (none)))) else (none)))) true := by
        refine Ev.bind hA (Ev.bind hA2 (Ev.congr (fun k => if_pos (by simp)) (Ev.bind hC (Ev.bind hC2 (Ev.congr (fun k => if_pos (by simp)) (Ev.bind hY (Ev.bind hY2 (Ev.congr (fun k => if_pos rfl) (Ev.bind hZ (Ev.bind hZ2 ?_))))))))))
        rw [show (UnShortest.Dv ws == UnShortest.Dv ws) = true from beq_iff_eq.mpr rfl]
        exact Ev.now _
      refine Ev.step (fun k => by simp only [capnplaw23_GrammarMatchesReference.j0]; rw [if_neg (by decide)]) ?_
      rcases bothGroups hB (by omega) with ⟨e1, e2, e3⟩ | ⟨e1, L, e2, e3, e4⟩
      · refine Ev.bind e2 (Ev.bind e3 (Ev.congr (f := fun k => capnplaw23_GrammarMatchesReference.j1 k p ws [] [] false) (fun k => ?_) ?_))
        · rw [if_neg (by decide), if_neg (by decide), if_pos rfl]; rfl
        · refine Ev.step (fun k => by simp only [capnplaw23_GrammarMatchesReference.j1]; rw [if_neg (by decide)]; rfl) (gm_l0 p ws [] (by simp) true tail 0 0 rfl)
      · have hg := (Gs_pos L p 0 0 e2).2
        refine Ev.bind e3 (Ev.bind e4 (Ev.congr (f := fun k => capnplaw23_GrammarMatchesReference.j1 k p ws L (L.map cv34) false) (fun k => ?_) ?_))
        · rw [if_neg (show ¬ (true != ((0 : Int) == 0)) = true by decide), if_pos rfl, show ((L.length : Int) != ((L.map cv34).length : Int)) = false by rw [List.length_map]; simp]
        · refine Ev.step (fun k => by simp only [capnplaw23_GrammarMatchesReference.j1]; rw [if_neg (by decide)]; rfl) (gm_l0 p ws L (by omega) true tail L.length 0 (by omega))
end Go.Proofs.YtnchacmhjbkmhaaDoor.Pure
