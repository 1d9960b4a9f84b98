/- The law PackstreamSplit: from every state, writing two pieces one after the other has the same result as writing them at once. -/
import Derived.Test.YtibkbgaonjdpiaaQPackstreamSplitS
namespace Go.Proofs.Ytibkbgaonjdpiaa.Pure
open Go Go.RowKit Go.Proofs.Ytibkbgaonjdpiaa Go.Proofs.Ytibkbgaonjdpiaa.M Go.Proofs.Ytibkbgaonjdpiaa.PPackstreamSplit Go.Proofs.YtibkbgaonjdpiaaW.PrintWords Go.Proofs.YtibkbgaonjdpiaaW.PrintLast Go.Proofs.YtibkbgaonjdpiaaW.PrintMore
open Go.Proofs.Ytibkbgaonjdpiaa.QPaBase (or_val wordGet_step chunk_rd wordGet_l0 wordGet_yes wordGet_no wordWords_l0 wordWords_yes wordWords_no wordBytes_l1 wordBytes_l0 wordBytes tagOf_step or_tag tagOf_l0 tagOf bitsOnes_all bitsOnes tagOnes tagDense tagBytes_l0 tagBytes)
open Go.Proofs.Ytibkbgaonjdpiaa.PPaBase
open Go.Proofs.Ytibkbgaonjdpiaa.QPackstreamSplit
set_option linter.unusedVariables false
set_option linter.unusedSimpArgs false
set_option maxRecDepth 10000
set_option maxHeartbeats 1000000
theorem split_j0 {p r a b p1 r1 o1 p2 r2 o2 p3 r3 o3 : List Int} {z z1 z2 z3 : Int} (v : Bool) (ha : a.length ≤ 6000) (hb : b.length ≤ 6000)
    (h1 : packstream_Write.f p z r a = some (p1, z1, r1, o1)) (h2 : packstream_Write.f p1 z1 r1 b = some (p2, z2, r2, o2)) (h3 : packstream_Write.f p z r (a ++ b) = some (p3, z3, r3, o3))
    (ep : p2 = p3) (ez : z2 = z3) (er : r2 = r3) (eo : o1 ++ o2 = o3) (lp : p2.length ≤ 1000000) (lr : r2.length ≤ 1000000) (lo : o1.length + o2.length ≤ 1000000000)
    (hv : Ev (fun k => packstream_Valid.f k p z r) v) (hv1 : Ev (fun k => packstream_Valid.f k p1 z1 r1) v) : Ev (fun k => capnplaw24_PackstreamSplit.j0 k a b false p z r) true := by
  subst ep ez er eo
  refine Ev.step (f := fun k => (capnpref24_Same.f k p2 z2 r2 p2 z2 r2).bind fun t288 => if t288 = true then (capnpref01_Same.f k (o1 ++ o2) (o1 ++ o2)).bind fun t298 => (if t298 = true then ((packstream_Valid.f k p z r).bind fun t299 => ((packstream_Valid.f k p1 z1 r1).bind fun t300 => (some (t299 == t300)))) else none) else none) (fun k => ?_) ?_
  · simp only [capnplaw24_PackstreamSplit.j0]
    rw [if_neg (by decide), h1, Option.bind_some, h2]
    simp only [Option.bind_some, List.length_nil, List.nil_append]
    rw [if_pos (by omega), if_pos (by omega), h3]
    simp only [Option.bind_some]
    rw [if_pos (by omega), if_pos (by omega)]
  · refine Ev.bind (ref24Same _ _ _ _ _ _ (by omega) (by omega)) ?_
    rw [decide_eq_true ⟨rfl, rfl, rfl⟩]
    refine Ev.congr (fun k => if_pos rfl) (Ev.bind (refSame _ _ (by rw [List.length_append]; omega)) ?_)
    rw [decide_eq_true rfl]
    refine Ev.congr (fun k => if_pos rfl) (Ev.bind hv (Ev.bind hv1 ?_))
    exact Ev.congr (f := fun _ => some true) (fun k => by simp) (Ev.now _)
theorem out_len {n : Nat} {rw' ws : List Int} (hI : Ps.Inv 255 n rw') (hW : IsW ws) : (Ps.runW ws (n, rw', [])).2.2.length ≤ 9 * (510 + ws.length) + 1 := by
  obtain ⟨D, d1, d2, _⟩ := Ps.run_beg ws n rw' [] hI hW
  have h1 := packS_length_le D
  have h2 := congrArg List.length d1
  have h3 := hI.zM
  have h4 := hI.rM
  simp only [List.length_append, Ps.stL_len] at h2
  rw [d2, List.nil_append]
  omega
theorem PackstreamSplit (p : List Int) (z : Int) (r : List Int) (hpw : ∀ x ∈ p, (Lit.int .u8 x).wf = true) (hpl : p.length ≤ 140737488351232) (hrw : ∀ x ∈ r, (Lit.int .u8 x).wf = true) (hrl : r.length ≤ 140737488351232) (hz : (Lit.int .i64 z).wf = true)
    (a : List Int) (has : a.length * 1 ≤ 140737488351232) (haw : ∀ x ∈ a, (Lit.int .u8 x).wf = true) (b : List Int) (hbs : b.length * 1 ≤ 140737488351232) (hbw : ∀ x ∈ b, (Lit.int .u8 x).wf = true) : ∃ k, capnplaw24_PackstreamSplit.f k p z r a b = some true := by
  have hpB : IsB p := fun x hx => wf_u8 (hpw x hx)
  have hrB : IsB r := fun x hx => wf_u8 (hrw x hx)
  have haB : IsB a := fun x hx => wf_u8 (haw x hx)
  have hbB : IsB b := fun x hx => wf_u8 (hbw x hx)
  apply Ev.rounds
  unfold capnplaw24_PackstreamSplit.f
  refine Ev.bind awake24 (Ev.congr (fun k => if_pos rfl) ?_)
  have out : Ev (fun k => capnplaw24_PackstreamSplit.j0 k a b true p z r) true := Ev.step (fun k => by simp only [capnplaw24_PackstreamSplit.j0]; rfl) (Ev.bind awake24 (Ev.now _))
  by_cases g1 : (p.length : Int) > 7
  · exact Ev.congr (fun k => if_pos g1) out
  · refine Ev.congr (fun k => if_neg g1) ?_
    by_cases g2 : (r.length : Int) > 3000
    · exact Ev.congr (fun k => if_pos g2) out
    · refine Ev.congr (fun k => if_neg g2) ?_
      by_cases g3 : (a.length : Int) > 6000
      · exact Ev.congr (fun k => if_pos g3) out
      · refine Ev.congr (fun k => if_neg g3) ?_
        by_cases g4 : (b.length : Int) > 6000
        · rw [decide_eq_true g4]; exact out
        · rw [decide_eq_false g4]
          have hvp := Ps.packValid p z hrB (by omega) (by omega)
          have habl : (a ++ b).length = a.length + b.length := List.length_append
          by_cases hv : Ps.validB p z r = true
          · obtain ⟨n, rw', rfl, rfl, hW, hI⟩ := Ps.Inv_of_V hrB hv
            have w1 := pkWrite hI hW (by omega) hpB haB (by omega)
            have w3 := pkWrite hI hW (by omega) hpB (haB.append hbB) (by omega)
            obtain ⟨A, hA⟩ : ∃ A, A = p ++ a := ⟨_, rfl⟩
            have hAB : IsB A := by rw [hA]; exact hpB.append haB
            have hAl : A.length = p.length + a.length := by rw [hA, List.length_append]
            rw [← List.append_assoc, ← hA] at w3
            rw [← hA] at w1
            have hcut := Ps.cut_both (A.take (Ps.m8 A)) (A.drop (Ps.m8 A)) b (by rw [Ps.take_len]; exact Ps.m8_mod A)
            rw [List.take_append_drop] at hcut
            obtain ⟨B, hB⟩ : ∃ B, B = A.drop (Ps.m8 A) ++ b := ⟨_, rfl⟩
            rw [← hB] at hcut
            have hdl : (A.drop (Ps.m8 A)).length < 8 := Ps.partW_len A
            have hBl : B.length ≤ 6008 := by rw [hB, List.length_append]; omega
            have hBB : IsB B := by rw [hB]; exact (hAB.drop _).append hbB
            obtain ⟨ws1, hws1⟩ : ∃ ws, ws = wordsS (A.take (Ps.m8 A)) := ⟨_, rfl⟩
            obtain ⟨ws2, hws2⟩ : ∃ ws, ws = wordsS (B.take (Ps.m8 B)) := ⟨_, rfl⟩
            have hW1 : IsW ws1 := by rw [hws1]; exact wordsS_W (hAB.take _)
            have hW2 : IsW ws2 := by rw [hws2]; exact wordsS_W (hBB.take _)
            have hl1 : ws1.length ≤ 1000 := by rw [hws1, wordsS_length, Ps.take_len]; have := Ps.m8_le A; omega
            have hl2 : ws2.length ≤ 1000 := by rw [hws2, wordsS_length, Ps.take_len]; have := Ps.m8_le B; omega
            have w1' : packstream_Write.f p (n : Int) (bytesS rw') a = some (A.drop (Ps.m8 A), Ps.toB (Ps.runW ws1 (n, rw', []))) := by rw [hws1]; exact w1
            have e3 : wordsS ((A ++ b).take (Ps.m8 (A ++ b))) = ws1 ++ ws2 := by
              rw [hcut.1, Ps.wordsS_append (hAB.take _) (hBB.take _) (by rw [Ps.take_len]; exact Ps.m8_mod A) (by rw [Ps.take_len]; exact Ps.m8_mod _), hws1, hws2]
            have w3' : packstream_Write.f p (n : Int) (bytesS rw') (a ++ b) = some (B.drop (Ps.m8 B), Ps.toB (Ps.runW (ws1 ++ ws2) (n, rw', []))) := by
              rw [← e3, ← hcut.2]; exact w3
            rw [Ps.runW_append] at w3'
            have hI1 := (Ps.run_ok ws1 n rw' [] hI hW1).1
            have hRW1 := Ps.runW_W ws1 (n, rw', []) hW hW1
            have ho1 := out_len hI hW1
            rcases hS1 : Ps.runW ws1 (n, rw', []) with ⟨z1, r1, o1⟩
            rw [hS1] at hI1 hRW1 w1' w3' ho1
            simp only at hI1 hRW1 ho1
            have w2 := pkWrite hI1 hRW1 hdl (hAB.drop (Ps.m8 A)) hbB (by omega)
            have w2' : packstream_Write.f (A.drop (Ps.m8 A)) (z1 : Int) (bytesS r1) b = some (B.drop (Ps.m8 B), Ps.toB (Ps.runW ws2 (z1, r1, []))) := by rw [hws2, hB]; exact w2
            have hI2 := (Ps.run_ok ws2 z1 r1 [] hI1 hW2).1
            have ho2 := out_len hI1 hW2
            have hrun := Ps.runW_out ws2 z1 r1 o1
            rcases hS2 : Ps.runW ws2 (z1, r1, []) with ⟨z2, r2, o2⟩
            rw [hS2] at w2' hI2 ho2 hrun
            rw [hrun] at w3'
            simp only at hI2 ho2 w3'
            have hv1 := Ps.packValid (A.drop (Ps.m8 A)) (z1 : Int) (bytesS_B r1) (by rw [bytesS_length]; have := hI1.rM; omega) (by omega)
            rw [Ps.V_of_Inv hI1 hRW1 hdl] at hv1
            rw [hv] at hvp
            have h2r := hI2.rM
            exact split_j0 (p1 := A.drop (Ps.m8 A)) (z1 := (z1 : Int)) (r1 := bytesS r1) (o1 := o1) (p2 := B.drop (Ps.m8 B)) (z2 := (z2 : Int)) (r2 := bytesS r2) (o2 := o2) true (by omega) (by omega) w1' w2' w3' rfl rfl rfl rfl (by rw [List.length_drop]; omega) (by rw [bytesS_length]; omega) (by omega) hvp hv1
          · have hvf : Ps.validB p z r = false := by simpa using hv
            have wf : ∀ c : List Int, IsB c → c.length ≤ 1000000 → packstream_Write.f p z r c = some (p, z, r, []) := by
              intro c hc hcl
              have := Ps.writeF_eq (p := p) (r := r) (by omega) (by omega) hcl hpB hrB hc z
              rw [if_neg hv] at this
              exact this
            exact split_j0 (Ps.validB p z r) (by omega) (by omega) (wf a haB (by omega)) (wf b hbB (by omega)) (wf (a ++ b) (haB.append hbB) (by omega)) rfl rfl rfl rfl (by omega) (by omega) (by simp) hvp hvp
end Go.Proofs.Ytibkbgaonjdpiaa.Pure
