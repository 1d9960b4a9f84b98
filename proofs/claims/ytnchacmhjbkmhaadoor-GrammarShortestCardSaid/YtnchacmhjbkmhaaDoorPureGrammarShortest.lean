/- The law GrammarShortest: every packing of words is at least as long as the shortest one; the concatenation of packings of two lists is a packing of their concatenation. -/
import Derived.Test.YtnchacmhjbkmhaaDoorQGrammarShortest
namespace Go.Proofs.YtnchacmhjbkmhaaDoor.Pure
open Go Go.RowKit Go.Proofs.YtnchacmhjbkmhaaDoor Go.Proofs.YtnchacmhjbkmhaaDoor.M Go.Proofs.YtnchacmhjbkmhaaDoor.PGrammarShortest Go.Proofs.YtnchacmhjbkmhaaDoorW.PrintWords Go.Proofs.YtnchacmhjbkmhaaDoorW.PrintLast Go.Proofs.YtnchacmhjbkmhaaDoorW.PrintMore Go.Proofs.YtnchacmhjbkmhaaDoor.QGrammarShortest
set_option linter.unusedVariables false
set_option linter.unusedSimpArgs false
set_option maxRecDepth 10000

theorem gs_j1 (a p b q : List Int) (hA : IsW a) (hB : IsB p) (hC : IsW b) (hD : IsB q) (la : a.length ≤ 300) (lb : b.length ≤ 300) (lp : p.length ≤ 4000) (lq : q.length ≤ 4000) (dp : decS p = (a, false)) (dq : decS q = (b, false)) : Ev (fun k => capnplaw23_GrammarShortest.j1 k a p b q false) true := by
  have hAB : IsW ([] ++ a ++ b) := by
    rw [List.nil_append]
    intro x hx
    rcases List.mem_append.mp hx with h | h
    · exact hA x h
    · exact hC x h
  have hPQ : IsB ([] ++ p ++ q) := by rw [List.nil_append]; exact hB.append hD
  have hd : decS ([] ++ p ++ q) = (a ++ b, false) := by
    rw [List.nil_append, UnShortest.decS_append q hD _ p (Nat.le_refl _) hB (by rw [dp]), dp, dq]
  have hZ := gramShortest hAB (by rw [List.nil_append, List.length_append]; omega)
  have hZa := gramShortest hA (by omega)
  have hZb := gramShortest hC (by omega)
  have hAcc := gramAccepts (ws := [] ++ a ++ b) hPQ (by rw [List.nil_append, List.length_append]; omega) hAB (by rw [List.nil_append, List.length_append]; omega)
  rw [hd, decide_eq_true ⟨rfl, by rw [List.nil_append]⟩] at hAcc
  have va : shortV a = UnShortest.Dv a := UnShortest.value_eq a
  have vb : shortV b = UnShortest.Dv b := UnShortest.value_eq b
  have vab : shortV ([] ++ a ++ b) = UnShortest.Dv (a ++ b) := by rw [List.nil_append]; exact UnShortest.value_eq _
  have lab : (a ++ b).length ≤ 1000000 := by rw [List.length_append]; omega
  have c1 := UnShortest.Dv_pack _ p a (Nat.le_refl _) hB dp (by omega)
  have c2 := UnShortest.Dv_pack _ q b (Nat.le_refl _) hD dq (by omega)
  have c3 := UnShortest.Dv_append_le _ a b (Nat.le_refl _) lab
  have c4 := UnShortest.Dv_left _ a b (Nat.le_refl _) lab
  have c5 := UnShortest.Dv_right _ a b (Nat.le_refl _) lab
  have c6 := UnShortest.Dv_0 (ws := a) (by omega)
  have c7 := UnShortest.Dv_0 (ws := b) (by omega)
  rw [va] at hZa
  rw [vb] at hZb
  rw [vab] at hZ
  obtain ⟨x, hx⟩ : ∃ x, x = UnShortest.Dv a := ⟨_, rfl⟩
  obtain ⟨y, hy⟩ : ∃ y, y = UnShortest.Dv b := ⟨_, rfl⟩
  obtain ⟨z, hz⟩ : ∃ z, z = UnShortest.Dv (a ++ b) := ⟨_, rfl⟩
  rw [← hx] at hZa c1 c3 c4 c6
  rw [← hy] at hZb c2 c3 c5 c7
  rw [← hz] at hZ c3 c4 c5
  clear hx hy hz va vb vab
  have w : wrap64 (x + y) = x + y := w64 (by omega) (by omega)
  refine Ev.step (f := fun k => (grammar_Shortest.f ([] ++ a ++ b)).bind fun t326 => ((grammar_Shortest.f a).bind fun t327 => ((grammar_Shortest.f b).bind fun t328 => ((grammar_Accepts.f k ([] ++ p ++ q) ([] ++ a ++ b)).bind fun t338 => (if t338 = true then (if t327 ≤ (p.length : Int) then (if t328 ≤ (q.length : Int) then (if t326 ≤ (wrap64 (t327 + t328)) then (if t326 ≥ t327 then (some (decide (t326 ≥ t328))) else (none)) else (none)) else (none)) else (none)) else (none)))))) (fun k => ?_) (Ev.bind hZ (Ev.bind hZa (Ev.bind hZb (Ev.bind hAcc ?_))))
  · simp only [capnplaw23_GrammarShortest.j1]
    rw [if_neg (by decide), Option.bind_some, if_pos (by simp; omega), Option.bind_some, if_pos (by simp; omega), Option.bind_some]
    simp only [Option.bind_some]
    simp only [if_pos (show ([] : List Int).length + p.length < 140737488355328 by simp; omega), if_pos (show (([] : List Int) ++ p).length + q.length < 140737488355328 by simp; omega)]
  · refine Ev.congr (fun k => ?_) (Ev.now true)
    rw [if_pos rfl, if_pos c1, if_pos c2, w, if_pos c3, if_pos c4, decide_eq_true (show z ≥ y from c5)]
theorem GrammarShortest : capnplaw23_GrammarShortest.Pure := by
  intro a p b q h1 h2 h3 h4 h5 h6 h7 h8 h9 h10 h11 h12
  have hA : IsW a := fun x hx => wf_u64 (h3 x hx)
  have hB : IsB p := fun x hx => wf_u8 (h6 x hx)
  have hC : IsW b := fun x hx => wf_u64 (h9 x hx)
  have hD : IsB q := fun x hx => wf_u8 (h12 x hx)
  apply Ev.rounds
  unfold capnplaw23_GrammarShortest.f
  refine Ev.bind awake23 (Ev.congr (fun k => if_pos rfl) ?_)
  have out : Ev (fun k => capnplaw23_GrammarShortest.j0 k a p b q true) true := Ev.step (f := fun k => (capnplaw23_awake.f k).bind fun t => some t) (fun k => by simp only [capnplaw23_GrammarShortest.j0]; rfl) (Ev.bind awake23 (Ev.now _))
  by_cases l1 : (a.length : Int) > 300
  · exact Ev.congr (fun k => if_pos l1) out
  · refine Ev.congr (fun k => if_neg l1) ?_
    by_cases l2 : (b.length : Int) > 300
    · exact Ev.congr (fun k => if_pos l2) out
    · refine Ev.congr (fun k => if_neg l2) ?_
      by_cases l3 : (p.length : Int) > 4000
      · exact Ev.congr (fun k => if_pos l3) out
      · refine Ev.congr (fun k => if_neg l3) ?_
        by_cases l4 : (q.length : Int) > 4000
        · rw [decide_eq_true l4]; exact out
        · rw [decide_eq_false l4]
          have no : Ev (fun k => capnplaw23_GrammarShortest.j1 k a p b q true) true := Ev.step (f := fun k => some true) (fun k => by simp only [capnplaw23_GrammarShortest.j1]; rfl) (Ev.now _)
          refine Ev.step (fun k => by simp only [capnplaw23_GrammarShortest.j0]; rw [if_neg (by decide)]) (Ev.bind (refAccepts hB (by omega)) ?_)
          by_cases d1 : (decS p).2 = false ∧ (decS p).1 = a
          · rw [decide_eq_true d1]
            refine Ev.congr (fun k => if_pos rfl) (Ev.bind (refAccepts hD (by omega)) ?_)
            by_cases d2 : (decS q).2 = false ∧ (decS q).1 = b
            · rw [decide_eq_true d2]
              exact gs_j1 a p b q hA hB hC hD (by omega) (by omega) (by omega) (by omega) (Prod.ext d1.2 d1.1) (Prod.ext d2.2 d2.1)
            · rw [decide_eq_false d2]; exact no
          · rw [decide_eq_false d1]
            exact Ev.congr (fun k => if_neg (by decide)) no
end Go.Proofs.YtnchacmhjbkmhaaDoor.Pure
