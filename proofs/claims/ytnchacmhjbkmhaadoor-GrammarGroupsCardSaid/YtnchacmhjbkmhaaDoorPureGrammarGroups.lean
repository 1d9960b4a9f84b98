/- The law GrammarGroups: the groups of every complete byte sequence cover all bytes and all words without gaps, and each group decodes to its own words. -/
import Derived.Test.YtnchacmhjbkmhaaDoorQGrammarGroups
namespace Go.Proofs.YtnchacmhjbkmhaaDoor.Pure
open Go Go.RowKit Go.Proofs.YtnchacmhjbkmhaaDoor Go.Proofs.YtnchacmhjbkmhaaDoor.M Go.Proofs.YtnchacmhjbkmhaaDoor.PGrammarGroups Go.Proofs.YtnchacmhjbkmhaaDoorW.PrintWords Go.Proofs.YtnchacmhjbkmhaaDoorW.PrintLast Go.Proofs.YtnchacmhjbkmhaaDoorW.PrintMore Go.Proofs.YtnchacmhjbkmhaaDoor.QGrammarGroups
set_option linter.unusedVariables false
set_option linter.unusedSimpArgs false
set_option maxRecDepth 10000

theorem gg_l0 (p : List Int) (hB : IsB p) (hp : p.length ≤ 300) (G : List S33) (ws : List Int) (hwl : ws.length ≤ 100000) : ∀ d i : Nat, i + d = G.length → ∀ a n : Nat, a ≤ p.length → Gs (G.drop i) (p.drop a) a n → n ≤ ws.length → ws.drop n = (decS (p.drop a)).1 → G.length ≤ 1000000 →
    Ev (fun k => capnplaw23_GrammarGroups.l0 k p ws G 0 (a : Int) (n : Int) (i : Int)) true := by
  intro d
  induction d with
  | zero =>
    intro i hi a n ha hG hn hw hGl
    rw [List.drop_of_length_le (by omega)] at hG
    have e : p.drop a = [] := hG
    have e1 := congrArg List.length e
    rw [List.length_drop, List.length_nil] at e1
    rw [e] at hw
    have e2 := congrArg List.length hw
    rw [List.length_drop, decS_nil, List.length_nil] at e2
    refine Ev.step (f := fun _ => some true) (fun k => ?_) (Ev.now _)
    simp only [capnplaw23_GrammarGroups.l0]
    rw [if_neg (by omega), if_pos True.intro, if_pos (by omega), show ((n : Int) == (ws.length : Int)) = true from beq_iff_eq.mpr (by omega)]
  | succ d ih =>
    intro i hi a n ha hG hn hw hGl
    have hlt : i < G.length := by omega
    rw [List.drop_eq_getElem_cons hlt] at hG
    obtain ⟨tt, nn, W, h0, h1, h2, h3, h4, h5, h6, h7, ⟨h8, _⟩, h9⟩ := hG
    have hrd : rd_T33 G (i : Int) = ⟨rd (p.drop a) 0, (a : Int), ((a + tt : Nat) : Int), (n : Int), (nn : Int)⟩ := by
      rw [← h8]; simp [rd_T33, List.getD_eq_getElem?_getD, List.getElem?_eq_getElem hlt]
    have hr0 : rd (p.drop a) 0 = rd p (a : Int) := rd_drop p a 0
    rw [List.length_drop] at h0 h2
    have hwn : nn ≤ ws.length - n := by
      have := congrArg List.length hw
      rw [h7, List.length_append, List.length_drop, h5] at this; omega
    have c0 : (i : Int) < (G.length : Int) := by omega
    have c1 : 0 ≤ (i : Int) := by omega
    have c2 : ¬ ((a + tt : Nat) : Int) ≤ (a : Int) := by omega
    have c3 : ¬ ((a + tt : Nat) : Int) > (p.length : Int) := by omega
    have c4 : ¬ (nn : Int) < 1 := by omega
    have c5 : ¬ ((n + nn : Nat) : Int) > (ws.length : Int) := by omega
    have c6 : 0 ≤ (a : Int) := by omega
    have c7 : (a : Int) < (p.length : Int) := by omega
    have c8 : (a : Int) ≤ ((a + tt : Nat) : Int) := by omega
    have c9 : ((a + tt : Nat) : Int) ≤ (p.length : Int) := by omega
    have c10 : 0 ≤ (n : Int) := by omega
    have c11 : (n : Int) ≤ ((n + nn : Nat) : Int) := by omega
    have c12 : ((n + nn : Nat) : Int) ≤ (ws.length : Int) := by omega
    have wi := wrap_succ i (by omega)
    have i1 : i + 1 + d = G.length := by omega
    have i2 : a + tt ≤ p.length := by omega
    have i3 : n + nn ≤ ws.length := by omega
    have hcut : (p.take (a + tt)).drop a = (p.drop a).take tt := by rw [List.drop_take, show a + tt - a = tt by omega]
    have hcut2 : (ws.take (n + nn)).drop n = W := by
      rw [List.drop_take, show n + nn - n = nn by omega, hw, h7, List.take_append_of_le_length (by omega), ← h5, List.take_length]
    have hw2 : ws.drop (n + nn) = (decS (p.drop (a + tt))).1 := by
      rw [← List.drop_drop, hw, h7, List.drop_append_of_le_length (by omega), ← h5, List.drop_length, List.nil_append, List.drop_drop]
    rw [List.drop_drop] at h9
    have hD := refDecodable ((hB.drop a).take tt) (by rw [List.length_take, List.length_drop]; omega)
    rw [h6] at hD
    have hE := refEqual W W (by rw [h5]; omega)
    rw [decide_eq_true rfl] at hE
    have wn : wrap64 ((n : Int) + (nn : Int)) = ((n + nn : Nat) : Int) := by rw [w64 (by omega) (by omega)]; omega
    refine Ev.step (f := fun k => capnplaw23_GrammarGroups.j2 k p ws G 0 (a : Int) (n : Int) (i : Int) false) (fun k => ?_) ?_
    · simp only [capnplaw23_GrammarGroups.l0, hrd]
      rw [if_pos c0, if_pos c1, if_pos True.intro, if_neg c2, if_neg c3, if_pos True.intro, if_neg c4, wn, if_neg c5, if_pos c6, if_pos c7, hr0, show (rd p (a : Int) != rd p (a : Int)) = false by simp]
    · refine Ev.step (f := fun k => (capnpref22_Decodable.f k ((p.drop a).take tt)).bind fun b => if b.2 = true then some false else (capnpref23_Equal.f k b.1 W).bind fun t => if t = true then capnplaw23_GrammarGroups.l0 k p ws G 0 ((a + tt : Nat) : Int) ((n + nn : Nat) : Int) ((i + 1 : Nat) : Int) else some false) (fun k => ?_) (Ev.bind hD ?_)
      · simp only [capnplaw23_GrammarGroups.j2, hrd]
        rw [if_neg (by decide), if_pos c1, if_pos c0, if_pos c6, if_pos c8, if_pos c9, Int.toNat_natCast, Int.toNat_natCast, hcut, wn]
        simp only [if_pos c10, if_pos c11, if_pos c12, Int.toNat_natCast, hcut2, wi]
      · refine Ev.congr (fun k => if_neg (show ¬ (false = true) by decide)) (Ev.bind hE (Ev.congr (fun k => if_pos rfl) (ih (i + 1) i1 (a + tt) (n + nn) i2 h9 i3 hw2 hGl)))
theorem gg_len : ∀ (L : List S33) (p : List Int) (a n : Nat), Gs L p a n → L.length ≤ p.length := fun L p a n h => (Gs_pos L p a n h).2
theorem GrammarGroups : capnplaw23_GrammarGroups.Pure := by
  intro p h1 h2 h3
  have hB : IsB p := fun x hx => wf_u8 (h3 x hx)
  apply Ev.rounds
  unfold capnplaw23_GrammarGroups.f
  refine Ev.bind awake23 (Ev.congr (fun k => if_pos rfl) ?_)
  by_cases hl : (p.length : Int) > 300
  · rw [decide_eq_true hl]
    exact Ev.step (fun k => by simp only [capnplaw23_GrammarGroups.j0]; rfl) (Ev.bind awake23 (Ev.now _))
  · rw [decide_eq_false hl]
    have hD := refDecodable hB (by omega)
    have hlen := decS_len hB
    refine Ev.step (fun k => by simp only [capnplaw23_GrammarGroups.j0]; rw [if_neg (by decide)]) (Ev.bind hD ?_)
    rcases gramGroups hB (by omega : p.length ≤ 1000000) with ⟨e1, e2⟩ | ⟨e1, L, e2, e3⟩
    · exact Ev.bind e2 (Ev.congr (fun k => by rw [if_pos e1, if_pos rfl]; rfl) (Ev.now _))
    · refine Ev.bind e3 (Ev.congr (fun k => by rw [if_neg (by rw [e1]; decide)]) ?_)
      have hg := gg_len L p 0 0 e2
      exact gg_l0 p hB (by omega) L (decS p).1 (by omega) L.length 0 (by omega) 0 0 (by omega) e2 (by omega) (by rw [List.drop_zero, List.drop_zero]) (by omega)
end Go.Proofs.YtnchacmhjbkmhaaDoor.Pure
