/- The law GrammarPackAccepted: the packed form is accepted as a packing of its words and of no others, is canonical, and is at least as long as the shortest packing. -/
import Derived.Test.YtnchacmhjbkmhaaDoorQGrammarPackAccepted
namespace Go.Proofs.YtnchacmhjbkmhaaDoor.Pure
open Go Go.RowKit Go.Proofs.YtnchacmhjbkmhaaDoor Go.Proofs.YtnchacmhjbkmhaaDoor.M Go.Proofs.YtnchacmhjbkmhaaDoor.PGrammarPackAccepted Go.Proofs.YtnchacmhjbkmhaaDoorW.PrintWords Go.Proofs.YtnchacmhjbkmhaaDoorW.PrintLast Go.Proofs.YtnchacmhjbkmhaaDoorW.PrintMore Go.Proofs.YtnchacmhjbkmhaaDoor.QGrammarPackAccepted
set_option linter.unusedVariables false
set_option linter.unusedSimpArgs false
set_option maxRecDepth 10000

theorem GrammarPackAccepted : capnplaw23_GrammarPackAccepted.Pure := by
  intro ws other h1 h2 h3 h4 h5 h6
  have hW : IsW ws := fun x hx => wf_u64 (h3 x hx)
  have hO : IsW other := fun x hx => wf_u64 (h6 x hx)
  apply Ev.rounds
  unfold capnplaw23_GrammarPackAccepted.f
  refine Ev.bind awake23 (Ev.congr (fun k => if_pos rfl) ?_)
  have out : Ev (fun k => capnplaw23_GrammarPackAccepted.j0 k ws other true) true := Ev.step (f := fun k => (capnplaw23_awake.f k).bind fun t => some t) (fun k => by simp only [capnplaw23_GrammarPackAccepted.j0]; rfl) (Ev.bind awake23 (Ev.now _))
  by_cases hl : (ws.length : Int) > 600
  · exact Ev.congr (fun k => if_pos hl) out
  · refine Ev.congr (fun k => if_neg hl) ?_
    by_cases hl2 : (other.length : Int) > 600
    · rw [decide_eq_true hl2]; exact out
    · rw [decide_eq_false hl2]
      have lw : ws.length ≤ 600 := by omega
      have lo : other.length ≤ 600 := by omega
      have hB := packS_isB ws
      have hlen := packS_length_le ws
      have hd := dec_packS hW
      have hA := gramAccepts hB (by omega) hW (by omega)
      have hA2 := gramAccepts hB (by omega) hO (by omega)
      have hC := gramCanonical hB (by omega)
      have hE := refEqual ws other (by omega)
      have hZ := gramShortest hW (by omega)
      rw [hd, decide_eq_true ⟨rfl, rfl⟩] at hA
      rw [hd, decide_eq_true ⟨rfl, rfl⟩] at hC
      rw [hd] at hA2
      have hsv : shortV ws ≤ ((packS ws).length : Int) := by
        unfold shortV
        rw [UnShortest.value_eq]
        exact UnShortest.Dv_pack _ _ _ (Nat.le_refl _) hB hd (by omega)
      refine Ev.step (fun k => by simp only [capnplaw23_GrammarPackAccepted.j0]; rw [if_neg (by decide)]) (Ev.bind (ref21Words ws hW (by omega)) (Ev.bind hA (Ev.congr (fun k => if_pos rfl) (Ev.bind hC (Ev.congr (fun k => if_pos rfl) (Ev.bind hA2 (Ev.bind hE (Ev.congr (fun k => if_pos ?_) (Ev.bind hZ ?_)))))))))
      · simp
      · rw [decide_eq_true hsv]
        exact Ev.now _
end Go.Proofs.YtnchacmhjbkmhaaDoor.Pure
