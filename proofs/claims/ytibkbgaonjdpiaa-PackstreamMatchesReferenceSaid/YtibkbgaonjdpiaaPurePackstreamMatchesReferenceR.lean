/- The law PackstreamMatchesReference: for every state, valid or not, and all bytes, all functions return what the reference implementation returns. -/
import Derived.Test.YtibkbgaonjdpiaaQPackstreamMatchesReferenceR
namespace Go.Proofs.Ytibkbgaonjdpiaa.Pure
open Go Go.RowKit Go.Proofs.Ytibkbgaonjdpiaa Go.Proofs.Ytibkbgaonjdpiaa.M Go.Proofs.Ytibkbgaonjdpiaa.PPackstreamMatchesReference Go.Proofs.YtibkbgaonjdpiaaW.PrintWords Go.Proofs.YtibkbgaonjdpiaaW.PrintLast Go.Proofs.YtibkbgaonjdpiaaW.PrintMore
open Go.Proofs.Ytibkbgaonjdpiaa.QPaBase (or_val wordGet_step chunk_rd wordGet_l0 wordGet_yes wordGet_no wordWords_l0 wordWords_yes wordWords_no wordBytes_l1 wordBytes_l0 wordBytes tagOf_step or_tag tagOf_l0 tagOf bitsOnes_all bitsOnes tagOnes tagDense tagBytes_l0 tagBytes)
open Go.Proofs.Ytibkbgaonjdpiaa.PPaBase
open Go.Proofs.Ytibkbgaonjdpiaa.QPackstreamMatchesReference
set_option linter.unusedVariables false
set_option linter.unusedSimpArgs false
set_option maxRecDepth 10000
set_option maxHeartbeats 1000000
theorem mr_j0 {p r b : List Int} (z : Int) (hp : p.length ≤ 3000) (hr : r.length ≤ 3000) (hb : b.length ≤ 6000) (hpB : IsB p) (hrB : IsB r) (hbB : IsB b) :
    Ev (fun k => capnplaw24_PackstreamMatchesReference.j0 k b false p z r) true := by
  have hcl := pkClose p z hrB (by omega) (by omega)
  have hva := ref24Valid p z hrB (by omega) (by omega)
  have hvp := Ps.packValid p z hrB (by omega) (by omega)
  have hwr := Ps.writeF_eq (by omega) (by omega) (by omega) hpB hrB hbB z (p := p) (r := r) (b := b)
  by_cases hv : Ps.validB p z r = true
  · obtain ⟨n, rw', rfl, rfl, hW, hI⟩ := Ps.Inv_of_V hrB hv
    obtain ⟨_, _, _, hp8⟩ := Ps.validB_IB hv
    have hwp := pkWrite hI hW hp8 hpB hbB (by omega)
    rw [hv, if_pos rfl] at hcl
    rw [hv] at hva hvp
    have hzM := hI.zM
    have hrM := hI.rM
    have hbl := bytesS_length rw'
    obtain ⟨A, hA⟩ : ∃ A, A = p ++ b := ⟨_, rfl⟩
    have hAB : IsB A := by rw [hA]; exact hpB.append hbB
    have hAl : A.length = p.length + b.length := by rw [hA, List.length_append]
    rw [← hA] at hwp
    obtain ⟨M, hM⟩ : ∃ M : Nat, M = A.length / 8 * 8 := ⟨_, rfl⟩
    rw [← hM] at hwp
    have hMA : M ≤ A.length ∧ M % 8 = 0 ∧ A.length - M < 8 := by omega
    have htl : (A.take M).length = M := by rw [List.length_take]; omega
    obtain ⟨ws, hws⟩ : ∃ ws, ws = wordsS (A.take M) := ⟨_, rfl⟩
    rw [← hws] at hwp
    have hwsW : IsW ws := by rw [hws]; exact wordsS_W (hAB.take M)
    have hwsl : ws.length ≤ 2000 := by rw [hws, wordsS_length, htl]; omega
    have hbw : bytesS ws = A.take M := by rw [hws]; exact bytesS_wordsS (M / 8) (A.take M) (by omega) (hAB.take M)
    have hsW : IsW (Ps.stL n rw' ++ ws) := (Ps.stL_W hW).append hwsW
    have hsl := Ps.stL_len n rw'
    have e : List.replicate (8 * n) (0 : Int) ++ bytesS rw' ++ p ++ b = bytesS (Ps.stL n rw' ++ ws) ++ A.drop M := by
      rw [bytesS_append, hbw, List.append_assoc (bytesS (Ps.stL n rw')), List.take_append_drop, List.append_assoc _ p b, ← hA]
      congr 1
      rw [zeros_bytesS, ← bytesS_append]; rfl
    have hdl : (A.drop M).length = A.length - M := List.length_drop
    have haf := ref24After e hsW (by omega) (hAB.drop M) (by rw [List.length_append]; omega)
    rw [Ps.runW_append, Ps.run_st hI] at haf
    obtain ⟨Z, hZ⟩ : ∃ Z, Z = Ps.runW ws (n, rw', []) := ⟨_, rfl⟩
    rw [← hZ] at haf hwp
    have hIZ := (Ps.run_ok ws n rw' [] hI hwsW).1
    rw [← hZ] at hIZ
    have hol : Z.2.2.length ≤ 100000 := by
      obtain ⟨D, d1, d2, _⟩ := Ps.run_beg ws n rw' [] hI hwsW
      rw [← hZ] at d1 d2
      have h1 := packS_length_le D
      have h2 := congrArg List.length d1
      simp only [List.length_append] at h2
      rw [d2, List.nil_append]
      omega
    have hZr := hIZ.rM
    have hZl := bytesS_length Z.2.1
    have hbt := ref24Bytes p n (bytesS rw') (by omega) (by omega) (by omega)
    refine Ev.step (f := fun k => (packstream_Close.f k p (n : Int) (bytesS rw')).bind fun bt428 => ((capnpref24_Valid.f k p (n : Int) (bytesS rw')).bind fun t432 => (if t432 = true then ((capnpref24_Bytes.f k p (n : Int) (bytesS rw')).bind fun t435 => (if t435.length + b.length < 140737488355328 then ((capnpref24_After.f k (t435 ++ b)).bind fun bt441 => ((capnpref24_Close.f k p (n : Int) (bytesS rw')).bind fun bt452 => ((packstream_Valid.f k p (n : Int) (bytesS rw')).bind fun t456 => (if t456 = true then ((capnpref24_Same.f k (A.drop M) (Z.1 : Int) (bytesS Z.2.1) bt441.1 bt441.2.1 bt441.2.2.1).bind fun t457 => (if t457 = true then ((capnpref01_Same.f k Z.2.2 bt441.2.2.2).bind fun t458 => (if t458 = true then ((capnpref01_Same.f k bt428.1 bt452.1).bind fun t459 => (if t459 = true then (some (bt428.2 == bt452.2)) else (none))) else (none))) else (none))) else (none))))) else (none))) else ((packstream_Valid.f k p (n : Int) (bytesS rw')).bind fun t433 => (if t433 = true then (none) else ((capnpref24_Same.f k (A.drop M) (Z.1 : Int) (bytesS Z.2.1) p (n : Int) (bytesS rw')).bind fun t434 => (if t434 = true then (if (Z.2.2.length : Int) = 0 then (if (bt428.1.length : Int) = 0 then (some (bt428.2 == 12)) else (none)) else (none)) else (none)))))))) (fun k => ?_) ?_
    · simp only [capnplaw24_PackstreamMatchesReference.j0]
      rw [if_neg (by decide), show packstream_Write.f p (n : Int) (bytesS rw') b = _ from hwp, Option.bind_some]
      rfl
    · refine Ev.bind hcl (Ev.bind hva (Ev.congr (fun k => if_pos rfl) (Ev.bind hbt (Ev.congr (fun k => if_pos (by simp only [List.length_append, List.length_replicate]; omega)) (Ev.bind haf (Ev.bind (ref24Close hI hW (by omega)) (Ev.bind hvp (Ev.congr (fun k => if_pos rfl) ?_))))))))
      refine Ev.bind (ref24Same _ _ _ _ _ _ (by omega) (by omega)) ?_
      rw [decide_eq_true ⟨rfl, rfl, rfl⟩]
      refine Ev.congr (fun k => if_pos rfl) (Ev.bind (refSame _ _ (by omega)) ?_)
      rw [decide_eq_true rfl]
      have hob : (Ps.openB (n : Int) (bytesS rw')).length ≤ 5000 := by
        rw [Ps.openB_W, ← Ps.open_pack hI]
        have := packS_length_le (Ps.stL n rw'); omega
      refine Ev.congr (fun k => if_pos rfl) (Ev.bind (refSame _ _ (by split <;> simp <;> omega)) ?_)
      rw [decide_eq_true rfl]
      exact Ev.congr (f := fun _ => some true) (fun k => by simp) (Ev.now _)
  · have hvf : Ps.validB p z r = false := by simpa using hv
    rw [if_neg hv] at hcl hwr
    rw [hvf] at hva hvp
    refine Ev.step (f := fun k => (packstream_Close.f k p z r).bind fun bt428 => ((capnpref24_Valid.f k p z r).bind fun t432 => (if t432 = true then ((capnpref24_Bytes.f k p z r).bind fun t435 => (if t435.length + b.length < 140737488355328 then ((capnpref24_After.f k (t435 ++ b)).bind fun bt441 => ((capnpref24_Close.f k p z r).bind fun bt452 => ((packstream_Valid.f k p z r).bind fun t456 => (if t456 = true then ((capnpref24_Same.f k p z r bt441.1 bt441.2.1 bt441.2.2.1).bind fun t457 => (if t457 = true then ((capnpref01_Same.f k ([] : List Int) bt441.2.2.2).bind fun t458 => (if t458 = true then ((capnpref01_Same.f k bt428.1 bt452.1).bind fun t459 => (if t459 = true then (some (bt428.2 == bt452.2)) else (none))) else (none))) else (none))) else (none))))) else (none))) else ((packstream_Valid.f k p z r).bind fun t433 => (if t433 = true then (none) else ((capnpref24_Same.f k p z r p z r).bind fun t434 => (if t434 = true then (if ((([] : List Int)).length : Int) = 0 then (if (bt428.1.length : Int) = 0 then (some (bt428.2 == 12)) else (none)) else (none)) else (none)))))))) (fun k => ?_) ?_
    · simp only [capnplaw24_PackstreamMatchesReference.j0]
      rw [if_neg (by decide), show packstream_Write.f p z r b = _ from hwr, Option.bind_some]
    · refine Ev.bind hcl (Ev.bind hva (Ev.congr (fun k => if_neg (by simp)) (Ev.bind hvp (Ev.congr (fun k => if_neg (by simp)) (Ev.bind (ref24Same _ _ _ _ _ _ (by omega) (by omega)) ?_)))))
      rw [decide_eq_true ⟨rfl, rfl, rfl⟩]
      exact Ev.congr (f := fun _ => some true) (fun k => by simp) (Ev.now _)
theorem PackstreamMatchesReference (p : List Int) (z : Int) (r : List Int) (hpw : ∀ x ∈ p, (Lit.int .u8 x).wf = true) (hpl : p.length ≤ 140737488351232) (hrw : ∀ x ∈ r, (Lit.int .u8 x).wf = true) (hrl : r.length ≤ 140737488351232) (hz : (Lit.int .i64 z).wf = true)
    (b : List Int) (hbs : b.length * 1 ≤ 140737488351232) (hbw : ∀ x ∈ b, (Lit.int .u8 x).wf = true) : ∃ k, capnplaw24_PackstreamMatchesReference.f k p z r b = some true := by
  have hpB : IsB p := fun x hx => wf_u8 (hpw x hx)
  have hrB : IsB r := fun x hx => wf_u8 (hrw x hx)
  have hbB : IsB b := fun x hx => wf_u8 (hbw x hx)
  apply Ev.rounds
  unfold capnplaw24_PackstreamMatchesReference.f
  refine Ev.bind awake24 (Ev.congr (fun k => if_pos rfl) ?_)
  have out : Ev (fun k => capnplaw24_PackstreamMatchesReference.j0 k b true p z r) true := Ev.step (fun k => by simp only [capnplaw24_PackstreamMatchesReference.j0]; rfl) (Ev.bind awake24 (Ev.now _))
  by_cases g1 : (p.length : Int) > 3000
  · exact Ev.congr (fun k => if_pos g1) out
  · refine Ev.congr (fun k => if_neg g1) ?_
    by_cases g2 : (r.length : Int) > 3000
    · exact Ev.congr (fun k => if_pos g2) out
    · refine Ev.congr (fun k => if_neg g2) ?_
      by_cases g3 : (b.length : Int) > 6000
      · rw [decide_eq_true g3]; exact out
      · rw [decide_eq_false g3]
        exact mr_j0 z (by omega) (by omega) (by omega) hpB hrB hbB
end Go.Proofs.Ytibkbgaonjdpiaa.Pure
