/- The law GrammarChoices: a word can be packed with every tag that covers its own one, only its own tag is canonical; literal runs can be joined and split. -/
import Derived.Test.YtnchacmhjbkmhaaDoorQGrammarChoicesC
namespace Go.Proofs.YtnchacmhjbkmhaaDoor.Pure
open Go Go.RowKit Go.Proofs.YtnchacmhjbkmhaaDoor Go.Proofs.YtnchacmhjbkmhaaDoor.M Go.Proofs.YtnchacmhjbkmhaaDoor.PGrammarChoices Go.Proofs.YtnchacmhjbkmhaaDoorW.PrintWords Go.Proofs.YtnchacmhjbkmhaaDoorW.PrintLast Go.Proofs.YtnchacmhjbkmhaaDoorW.PrintMore
open Go.Proofs.YtnchacmhjbkmhaaDoor.QUnBase (bitsOnes_all bitsOnes tagOnes wordMask wordInsert and_tag insert_byte tagExpand_yes tagExpand wordBytes_l1 wordBytes_l0 wordBytes)
open Go.Proofs.YtnchacmhjbkmhaaDoor.QOfBase (tagOf_step or_tag tagOf_l0 tagOf)
open Go.Proofs.YtnchacmhjbkmhaaDoor.PUnBase
open Go.Proofs.YtnchacmhjbkmhaaDoor.POfBase (tagbyte_Of.f tagbyte_Of.calls tagbyte_Of.mono tagbyte_Of.mono_l)
open Go.Proofs.YtnchacmhjbkmhaaDoor.QGrammarChoices
set_option linter.unusedVariables false
set_option linter.unusedSimpArgs false
set_option maxRecDepth 10000
set_option maxHeartbeats 1000000
open Go.Proofs.YtnchacmhjbkmhaaDoor.Un (selF bytes_one dec_split dec_joined split_not or_tag selF_B selF_le dec_tagged pack_tagged)
theorem gch_l0 (w v T : Int) (b : List Int) (hb : b.length = 8) (p : List Int) (r : Bool) (h : Ev (fun k => if T = 0 then (capnplaw23_GrammarChoices.j1 k w v b false) else (if T = 255 then (capnplaw23_GrammarChoices.j1 k w v b false) else ((grammar_Accepts.f k p (([w] : List Int))).bind fun t319 => (if t319 = true then ((grammar_Canonical.f k p).bind fun t320 => ((capnpref20_Of.f k w).bind fun t321 => (capnplaw23_GrammarChoices.j1 k w v b (t320 != (T == t321))))) else (capnplaw23_GrammarChoices.j1 k w v b true))))) r) :
    ∀ d i : Nat, i + d = 8 → ∀ (acc : List Int) (m : Int), 0 ≤ m → m < 256 → acc.length ≤ 1 + i → acc ++ selF d m (b.drop i) = p → Ev (fun k => capnplaw23_GrammarChoices.l0 k w v b T acc m (i : Int)) r := by
  intro d
  induction d with
  | zero =>
    intro i hi acc m m0 m1 hl e
    rw [selF, List.append_nil] at e
    subst e
    refine Ev.step (fun k => ?_) h
    simp only [capnplaw23_GrammarChoices.l0]
    rw [if_neg (by omega)]
  | succ d ih =>
    intro i hi acc m m0 m1 hl e
    have hd : b.drop i = rd b (i : Int) :: b.drop (i + 1) := drop_rd (by omega)
    rw [selF, hd] at e
    simp only [List.headD_cons, List.tail_cons] at e
    have em : wrap64 (Int.tdiv m 2) = m / 2 := by rw [Int.tdiv_eq_ediv_of_nonneg m0, w64 (by omega) (by omega)]
    by_cases q : m % 2 = 1
    · rw [if_pos q] at e
      refine Ev.step (fun k => ?_) (ih (i + 1) (by omega) (acc ++ [rd b (i : Int)]) (m / 2) (by omega) (by omega) (by rw [List.length_append, List.length_singleton]; omega) (by rw [← e]; simp))
      simp only [capnplaw23_GrammarChoices.l0]
      rw [if_pos (by omega), Int.tmod_eq_emod_of_nonneg m0, if_pos q, if_pos (by omega), if_pos (by omega), if_pos (by omega), em, wrap_succ i (by omega)]
    · rw [if_neg q] at e
      refine Ev.step (fun k => ?_) (ih (i + 1) (by omega) acc (m / 2) (by omega) (by omega) (by omega) e)
      simp only [capnplaw23_GrammarChoices.l0]
      rw [if_pos (by omega), Int.tmod_eq_emod_of_nonneg m0, if_neg q, em, wrap_succ i (by omega)]
theorem gch_acc {p ws : List Int} (hB : IsB p) (hp : p.length ≤ 1000000) (hW : IsW ws) (hw : ws.length ≤ 1000000) {us : List Int} (hd : decS p = (us, false)) : Ev (fun k => grammar_Accepts.f k p ws) (decide (us = ws)) := by
  have h := gramAccepts hB hp hW hw
  rw [hd] at h
  rw [show decide (us = ws) = decide (((us, false) : List Int × Bool).2 = false ∧ ((us, false) : List Int × Bool).1 = ws) by simp]
  exact h
theorem gch_can {p : List Int} (hB : IsB p) (hp : p.length ≤ 400000) {us : List Int} (hd : decS p = (us, false)) : Ev (fun k => grammar_Canonical.f k p) (decide (p = packS us)) := by
  have h := gramCanonical hB hp
  rw [hd] at h
  rw [show decide (p = packS us) = decide (((us, false) : List Int × Bool).2 = false ∧ p = packS ((us, false) : List Int × Bool).1) by simp]
  exact h
theorem gch_end {w v : Int} (h0 : 0 ≤ w) (h1 : w < 18446744073709551616) (v0 : 0 ≤ v) (v1 : v < 18446744073709551616) : Ev (fun k => capnplaw23_GrammarChoices.j1 k w v (bs 8 w) false) true := by
  have hw : IsW [w, v] := IsW.cons h0 h1 (IsW.cons v0 v1 IsW.nil)
  have hw1 : IsW [w] := IsW.cons h0 h1 IsW.nil
  have l1 := bs_length 8 w
  have l2 := bs_length 8 v
  have hc := refBytes [v] (IsW.cons v0 v1 IsW.nil) (by simp)
  rw [bytes_one] at hc
  have bS : IsB (255 :: (bs 8 w ++ 0 :: 255 :: (bs 8 v ++ [0]))) := IsB.cons (by decide) (by decide) (IsB.append (bs_B 8 w) (IsB.cons (by decide) (by decide) (IsB.cons (by decide) (by decide) (IsB.append (bs_B 8 v) (IsB.cons (by decide) (by decide) IsB.nil)))))
  have bJ : IsB (255 :: (bs 8 w ++ 1 :: bs 8 v)) := IsB.cons (by decide) (by decide) (IsB.append (bs_B 8 w) (IsB.cons (by decide) (by decide) (bs_B 8 v)))
  have dS := dec_split h0 h1 v0 v1
  have dJ := dec_joined h0 h1 v0 v1
  have a1 := gch_acc bS (by simp only [List.length_cons, List.length_append, l1, l2, List.length_nil]; omega) hw (by simp) dS
  have a2 := gch_acc bJ (by simp only [List.length_cons, List.length_append, l1, l2, List.length_nil]; omega) hw (by simp) dJ
  have a3 := gch_acc bJ (by simp only [List.length_cons, List.length_append, l1, l2, List.length_nil]; omega) hw1 (by simp) dJ
  have c1 := gch_can bS (by simp only [List.length_cons, List.length_append, l1, l2, List.length_nil]; omega) dS
  rw [decide_eq_false (split_not w v)] at c1
  rw [decide_eq_true rfl] at a1 a2
  rw [decide_eq_false (by simp)] at a3
  have ow := refOf w h0 h1
  have ov := refOf v v0 v1
  have dv := refDense v v0 v1
  have eS : ([255] ++ bs 8 w ++ [0, 255] ++ bs 8 v ++ [0] : List Int) = 255 :: (bs 8 w ++ 0 :: 255 :: (bs 8 v ++ [0])) := by simp
  have eJ : ([255] ++ bs 8 w ++ [1] ++ bs 8 v : List Int) = 255 :: (bs 8 w ++ 1 :: bs 8 v) := by simp
  refine Ev.step (f := fun k => (capnpref01_Bytes.f k (([v] : List Int))).bind fun t325 => ((some (([255] : List Int) : List Int)).bind fun y328 => (if y328.length + (bs 8 w).length < 140737488355328 then ((some (y328 ++ (bs 8 w) : List Int)).bind fun y331 => ((some (([0, 255] : List Int) : List Int)).bind fun y334 => (if y331.length + y334.length < 140737488355328 then ((some (y331 ++ y334 : List Int)).bind fun y337 => (if y337.length + t325.length < 140737488355328 then ((some (y337 ++ t325 : List Int)).bind fun y340 => (if y340.length < 140737488355328 then ((some (y340 ++ [0] : List Int)).bind fun y343 => ((some (([255] : List Int) : List Int)).bind fun y346 => (if y346.length + (bs 8 w).length < 140737488355328 then ((some (y346 ++ (bs 8 w) : List Int)).bind fun y349 => (if y349.length < 140737488355328 then ((some (y349 ++ [1] : List Int)).bind fun y352 => (if y352.length + t325.length < 140737488355328 then ((some (y352 ++ t325 : List Int)).bind fun y355 => ((grammar_Accepts.f k y343 (([w, v] : List Int))).bind fun t361 => (if t361 = true then ((grammar_Accepts.f k y355 (([w, v] : List Int))).bind fun t365 => (if t365 = true then ((grammar_Accepts.f k y355 (([w] : List Int))).bind fun t369 => (if t369 = true then (some false) else ((grammar_Canonical.f k y343).bind fun t370 => ((capnpref20_Of.f k w).bind fun t371 => (if t371 = 255 then ((capnpref20_Of.f k v).bind fun t372 => (if t372 = 255 then ((capnpref20_Dense.f k v).bind fun t373 => (some ((!t370) == t373))) else (some ((!t370) == true)))) else (some ((!t370) == true))))))) else (some false))) else (some false)))) else (none))) else (none))) else (none)))) else (none))) else (none))) else (none)))) else (none)))) (fun k => ?_) (Ev.bind hc (Ev.congr (f := fun k => (grammar_Accepts.f k ([255] ++ bs 8 w ++ [0, 255] ++ bs 8 v ++ [0]) [w, v]).bind fun t361 => (if t361 = true then ((grammar_Accepts.f k ([255] ++ bs 8 w ++ [1] ++ bs 8 v) [w, v]).bind fun t365 => (if t365 = true then ((grammar_Accepts.f k ([255] ++ bs 8 w ++ [1] ++ bs 8 v) [w]).bind fun t369 => (if t369 = true then (some false) else ((grammar_Canonical.f k ([255] ++ bs 8 w ++ [0, 255] ++ bs 8 v ++ [0])).bind fun t370 => ((capnpref20_Of.f k w).bind fun t371 => (if t371 = 255 then ((capnpref20_Of.f k v).bind fun t372 => (if t372 = 255 then ((capnpref20_Dense.f k v).bind fun t373 => (some ((!t370) == t373))) else (some ((!t370) == true)))) else (some ((!t370) == true))))))) else (some false))) else (some false))) (fun k => ?_) ?_))
  · simp only [capnplaw23_GrammarChoices.j1]
    rw [if_neg (by decide)]
  · simp only [Option.bind_some, List.length_append, List.length_cons, List.length_nil, l1, l2]
    rfl
  · rw [eS, eJ]
    refine Ev.bind a1 (Ev.congr (fun k => if_pos rfl) (Ev.bind a2 (Ev.congr (fun k => if_pos rfl) (Ev.bind a3 (Ev.congr (fun k => if_neg (by decide)) (Ev.bind c1 (Ev.bind ow ?_)))))))
    by_cases e1 : ofS w = 255
    · refine Ev.congr (fun k => if_pos e1) (Ev.bind ov ?_)
      by_cases e2 : ofS v = 255
      · refine Ev.congr (fun k => if_pos e2) (Ev.bind dv ?_)
        rw [ofS_full e2]; exact Ev.now _
      · exact Ev.congr (fun k => if_neg e2) (Ev.now _)
    · exact Ev.congr (fun k => if_neg e1) (Ev.now _)
theorem GrammarChoices : capnplaw23_GrammarChoices.Pure := by
  intro w v a h1 h2 h3
  have hw := wf_u64 h1
  have hv := wf_u64 h2
  have ha := wf_u8 h3
  apply Ev.rounds
  unfold capnplaw23_GrammarChoices.f
  refine Ev.bind awake23 (Ev.congr (fun k => if_pos rfl) ?_)
  have hb := refBytes [w] (IsW.cons hw.1 hw.2 IsW.nil) (by simp)
  rw [bytes_one] at hb
  refine Ev.bind hb (Ev.bind (refOf w hw.1 hw.2) ?_)
  have ho := ofS_range w
  obtain ⟨T, eT, t0, t1, hc⟩ := or_tag ho.1 ho.2 ha.1 ha.2
  simp only [eT]
  rw [w64 (by omega) (by omega)]
  have he := gch_end hw.1 hw.2 hv.1 hv.2
  refine gch_l0 w v T (bs 8 w) (bs_length 8 w) (T :: selF 8 T (bs 8 w)) true ?_ 8 0 rfl [T] T t0 t1 (by simp) (by simp)
  by_cases T0 : T = 0
  · exact Ev.congr (fun k => if_pos T0) he
  · refine Ev.congr (fun k => if_neg T0) ?_
    by_cases T1 : T = 255
    · exact Ev.congr (fun k => if_pos T1) he
    · refine Ev.congr (fun k => if_neg T1) ?_
      have hB : IsB (T :: selF 8 T (bs 8 w)) := IsB.cons t0 t1 (selF_B 8 T _ (bs_B 8 w))
      have hl := selF_le 8 T (bs 8 w)
      have hd := dec_tagged hw.1 hw.2 t0 T0 T1 hc
      have a1 := gch_acc hB (by rw [List.length_cons]; omega) (IsW.cons hw.1 hw.2 IsW.nil) (by simp) hd
      rw [decide_eq_true rfl] at a1
      have c1 := gch_can hB (by rw [List.length_cons]; omega) hd
      refine Ev.bind a1 (Ev.congr (fun k => if_pos rfl) (Ev.bind c1 (Ev.bind (refOf w hw.1 hw.2) ?_)))
      rw [show (decide (T :: selF 8 T (bs 8 w) = packS [w]) != (T == ofS w)) = false by
        rw [decide_eq_decide.mpr (pack_tagged (w := w) T0 T1)]
        by_cases z : T = ofS w
        · rw [decide_eq_true z, beq_iff_eq.mpr z]; rfl
        · rw [decide_eq_false z, beq_eq_false_iff_ne.mpr z]; rfl]
      exact he
end Go.Proofs.YtnchacmhjbkmhaaDoor.Pure
