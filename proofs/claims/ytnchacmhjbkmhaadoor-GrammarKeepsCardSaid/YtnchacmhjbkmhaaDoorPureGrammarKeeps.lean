/- The law GrammarKeeps: no function modifies its arguments, and modifying a list of groups does not change later results. -/
import Derived.Test.YtnchacmhjbkmhaaDoorQGrammarKeeps
namespace Go.Proofs.YtnchacmhjbkmhaaDoor.Pure
open Go Go.RowKit Go.Proofs.YtnchacmhjbkmhaaDoor Go.Proofs.YtnchacmhjbkmhaaDoor.M Go.Proofs.YtnchacmhjbkmhaaDoor.PGrammarKeeps Go.Proofs.YtnchacmhjbkmhaaDoorW.PrintWords Go.Proofs.YtnchacmhjbkmhaaDoorW.PrintLast Go.Proofs.YtnchacmhjbkmhaaDoorW.PrintMore Go.Proofs.YtnchacmhjbkmhaaDoor.QGrammarKeeps
set_option linter.unusedVariables false
set_option linter.unusedSimpArgs false
set_option maxRecDepth 10000

theorem gk_l0 (p ws was old : List Int) (r : Bool) (h : Ev (fun k => (grammar_Groups.f k p).bind fun bt313 => ((grammar_Accepts.f k p ws).bind fun t317 => ((grammar_Canonical.f k p).bind fun t318 => ((grammar_Ways.f ws).bind fun t319 => ((grammar_Shortest.f ws).bind fun t320 => ((capnpref23_Groups.f k p).bind fun bt321 => ((capnpref01_Same.f k p was).bind fun t325 => (if t325 = true then ((capnpref23_Equal.f k ws old).bind fun t326 => (if t326 = true then (if bt313.2 = 0 then (if (bt313.1.length : Int) = (bt321.1.length : Int) then (if (bt313.1.length : Int) = 0 then (some true) else (if 0 < (bt313.1.length : Int) then (if 0 < (bt321.1.length : Int) then (some (((rd_T33 bt313.1 0).f2) == ((rd_T34 bt321.1 0).f2))) else (none)) else (none))) else (some false)) else (some true)) else (some false))) else (some false))))))))) r) : ∀ (d i : Nat) (x : List S33), i + d = x.length → x.length ≤ 1000000000 → Ev (fun k => capnplaw23_GrammarKeeps.l0 k p ws was old x (i : Int)) r := by
  intro d
  induction d with
  | zero =>
    intro i x hi hx
    refine Ev.step (fun k => ?_) h
    simp only [capnplaw23_GrammarKeeps.l0]
    rw [if_neg (by omega)]
  | succ d ih =>
    intro i x hi hx
    refine Ev.step (fun k => ?_) (ih (i + 1) (x.set i ⟨0, 0, 0, 0, 0⟩) (by rw [List.length_set]; omega) (by rw [List.length_set]; omega))
    simp only [capnplaw23_GrammarKeeps.l0]
    rw [if_pos (by omega), if_pos (by omega), wrap_succ i (by omega), Int.toNat_natCast]
theorem GrammarKeeps : capnplaw23_GrammarKeeps.Pure := by
  intro p ws h1 h2 h3 h4 h5 h6
  have hB : IsB p := fun x hx => wf_u8 (h3 x hx)
  have hW : IsW ws := fun x hx => wf_u64 (h6 x hx)
  apply Ev.rounds
  unfold capnplaw23_GrammarKeeps.f
  refine Ev.bind awake23 (Ev.congr (fun k => if_pos rfl) ?_)
  have out : Ev (fun k => capnplaw23_GrammarKeeps.j0 k p ws true) true := Ev.step (f := fun k => (capnplaw23_awake.f k).bind fun t => some t) (fun k => by simp only [capnplaw23_GrammarKeeps.j0]; rfl) (Ev.bind awake23 (Ev.now _))
  by_cases hl : (p.length : Int) > 300
  · exact Ev.congr (fun k => if_pos hl) out
  · refine Ev.congr (fun k => if_neg hl) ?_
    by_cases hl2 : (ws.length : Int) > 300
    · rw [decide_eq_true hl2]; exact out
    · rw [decide_eq_false hl2]
      have lp : p.length ≤ 300 := by omega
      have lw : ws.length ≤ 300 := by omega
      have hA := gramAccepts hB (by omega) hW (by omega)
      have hC := gramCanonical hB (by omega)
      have hY := gramWays hW (by omega)
      have hZ := gramShortest hW (by omega)
      have hS := refSame p ([] ++ p) (by omega)
      have hE := refEqual ws ([] ++ ws) (by omega)
      rw [decide_eq_true (List.nil_append p).symm] at hS
      rw [decide_eq_true (List.nil_append ws).symm] at hE
      refine Ev.step (f := fun k => (grammar_Groups.f k p).bind fun b => capnplaw23_GrammarKeeps.l0 k p ws ([] ++ p) ([] ++ ws) b.1 0) (fun k => ?_) ?_
      · simp only [capnplaw23_GrammarKeeps.j0]
        rw [if_neg (by decide), Option.bind_some, if_pos (by simp; omega), Option.bind_some, if_pos (by simp; omega)]
      · rcases bothGroups hB (by omega) with ⟨e1, e2, e3⟩ | ⟨e1, L, e2, e3, e4⟩
        · refine Ev.bind e2 (gk_l0 p ws _ _ _ ?_ 0 0 [] rfl (by simp))
          exact Ev.bind e2 (Ev.bind hA (Ev.bind hC (Ev.bind hY (Ev.bind hZ (Ev.bind e3 (Ev.bind hS (Ev.congr (fun k => if_pos rfl) (Ev.bind hE (Ev.congr (fun k => by rw [if_pos rfl, if_neg (by decide)]) (Ev.now _))))))))))
        · have hg := (Gs_pos L p 0 0 e2).2
          refine Ev.bind e3 (gk_l0 p ws _ _ _ ?_ L.length 0 L (by simp) (by omega))
          refine Ev.bind e3 (Ev.bind hA (Ev.bind hC (Ev.bind hY (Ev.bind hZ (Ev.bind e4 (Ev.bind hS (Ev.congr (fun k => if_pos rfl) (Ev.bind hE (Ev.congr (fun k => by rw [if_pos rfl, if_pos rfl]) ?_)))))))))
          refine Ev.congr (fun k => if_pos (by rw [List.length_map])) ?_
          cases L with
          | nil => exact Ev.congr (fun k => if_pos (by simp)) (Ev.now _)
          | cons g L =>
            refine Ev.congr (fun k => if_neg (by simp only [List.length_cons]; omega)) (Ev.congr (fun k => if_pos (by simp only [List.length_cons]; omega)) (Ev.congr (fun k => if_pos (by simp only [List.length_map, List.length_cons]; omega)) ?_))
            rw [show ((rd_T33 (g :: L) 0).f2 == (rd_T34 ((g :: L).map cv34) 0).f2) = true from beq_iff_eq.mpr rfl]
            exact Ev.now _
end Go.Proofs.YtnchacmhjbkmhaaDoor.Pure
