/- The law PackstreamChunks: for every division of the input into chunks, empty ones included, the concatenated output is the packed form of the whole input, or ErrUnaligned if its length is not a multiple of 8. -/
import Derived.Test.YtibkbgaonjdpiaaQPackstreamChunksC
namespace Go.Proofs.Ytibkbgaonjdpiaa.Pure
open Go Go.RowKit Go.Proofs.Ytibkbgaonjdpiaa Go.Proofs.Ytibkbgaonjdpiaa.M Go.Proofs.Ytibkbgaonjdpiaa.PPackstreamChunks Go.Proofs.YtibkbgaonjdpiaaW.PrintWords Go.Proofs.YtibkbgaonjdpiaaW.PrintLast Go.Proofs.YtibkbgaonjdpiaaW.PrintMore
open Go.Proofs.Ytibkbgaonjdpiaa.QPaBase (or_val wordGet_step chunk_rd wordGet_l0 wordGet_yes wordGet_no wordWords_l0 wordWords_yes wordWords_no wordBytes_l1 wordBytes_l0 wordBytes tagOf_step or_tag tagOf_l0 tagOf bitsOnes_all bitsOnes tagOnes tagDense tagBytes_l0 tagBytes)
open Go.Proofs.Ytibkbgaonjdpiaa.PPaBase
open Go.Proofs.Ytibkbgaonjdpiaa.QPackstreamChunks
set_option linter.unusedVariables false
set_option linter.unusedSimpArgs false
set_option maxRecDepth 10000
set_option maxHeartbeats 1000000
theorem ch_l0 (L : List (List Int)) (hL : ∀ l ∈ L, l.length * 1 ≤ 140737488351232 ∧ IsB l) (hl : L.length ≤ 40) :
    ∀ (d i : Nat), i + d = L.length → ∀ (inn : List Int), IsB inn → inn.length ≤ 20000 → Ev (fun k => capnplaw24_PackstreamChunks.l0 k L inn (Ps.stW inn).2.2 (i : Int) (Ps.partW inn) ((Ps.stW inn).1 : Int) (bytesS (Ps.stW inn).2.1)) true
  | 0, i, hi, inn, hB, hn => by
    obtain ⟨hI, hRW⟩ := Ps.st_inv hB
    have hp8 := Ps.partW_len inn
    have hv := Ps.V_of_Inv hI hRW hp8
    have hrM := hI.rM
    have hbl := bytesS_length (Ps.stW inn).2.1
    have hcl := pkClose (Ps.partW inn) ((Ps.stW inn).1 : Int) (bytesS_B (Ps.stW inn).2.1) (by omega) (by omega)
    rw [hv, if_pos rfl] at hcl
    have hpl : (Ps.partW inn).length = inn.length - inn.length / 8 * 8 := by unfold Ps.partW Ps.m8; exact List.length_drop
    have hol := Ps.st_out_len hB
    refine Ev.step (f := fun k => (packstream_Close.f k (Ps.partW inn) ((Ps.stW inn).1 : Int) (bytesS (Ps.stW inn).2.1)).bind fun bt373 => ((capnpref21_Bytes.f k inn).bind fun bt377 => (if bt377.2 = 0 then (if bt373.2 = 0 then (if (Ps.stW inn).2.2.length + bt373.1.length < 140737488355328 then ((capnpref01_Same.f k ((Ps.stW inn).2.2 ++ bt373.1) bt377.1).bind fun t384 => (some t384)) else (none)) else (none)) else (if bt373.2 = 9 then (some ((bt373.1.length : Int) == 0)) else (none))))) (fun k => ?_) (Ev.bind hcl ?_)
    · simp only [capnplaw24_PackstreamChunks.l0]
      rw [if_neg (by omega)]
    · by_cases h8 : inn.length % 8 = 0
      · rw [if_neg (by omega)]
        have hpk := Ps.st_pack hB h8
        have hle : ((Ps.stW inn).2.2 ++ Ps.openB ((Ps.stW inn).1 : Int) (bytesS (Ps.stW inn).2.1)).length ≤ 1000000 := by
          rw [hpk]
          have := packS_length_le (wordsS inn)
          rw [wordsS_length] at this
          omega
        refine Ev.bind (ref21Bytes_yes inn hB (by omega) h8) (Ev.congr (fun k => if_pos rfl) (Ev.congr (fun k => if_pos rfl) (Ev.congr (fun k => if_pos (by rw [List.length_append] at hle; dsimp only; omega)) (Ev.bind (refSame _ _ (by dsimp only; omega)) ?_))))
        rw [hpk, decide_eq_true rfl]
        exact Ev.now _
      · rw [if_pos (by omega)]
        exact Ev.bind (ref21Bytes_no inn h8) (Ev.congr (fun k => if_neg (by simp)) (Ev.congr (f := fun _ => some true) (fun k => by simp) (Ev.now _)))
  | d + 1, i, hi, inn, hB, hn => by
    have hmem : rd_L2 L (i : Int) ∈ L := by
      unfold rd_L2
      simp only [Int.toNat_natCast, List.getD_eq_getElem?_getD, List.getElem?_eq_getElem (show i < L.length by omega), Option.getD_some]
      exact List.getElem_mem _
    obtain ⟨c, hc⟩ : ∃ c, c = rd_L2 L (i : Int) := ⟨_, rfl⟩
    rw [← hc] at hmem
    obtain ⟨hcl, hcB⟩ := hL c hmem
    have ww : wrap64 ((inn.length : Int) + (c.length : Int)) = (inn.length : Int) + (c.length : Int) := w64 (by omega) (by omega)
    by_cases hb : (inn.length : Int) + (c.length : Int) > 20000
    · refine Ev.step (f := fun _ => some true) (fun k => ?_) (Ev.now _)
      simp only [capnplaw24_PackstreamChunks.l0]
      rw [if_pos (by omega), if_pos (by omega), ← hc, ww, if_pos hb]
    · obtain ⟨hI, hRW⟩ := Ps.st_inv hB
      have hp8 := Ps.partW_len inn
      have hpB : IsB (Ps.partW inn) := hB.drop _
      have hw := pkWrite hI hRW hp8 hpB hcB (by omega)
      obtain ⟨s1, s2⟩ := Ps.st_step hB hcB
      have hol := Ps.st_out_len (hB.append hcB)
      rw [List.length_append] at hol
      have hw' : packstream_Write.f (Ps.partW inn) ((Ps.stW inn).1 : Int) (bytesS (Ps.stW inn).2.1) c = some (Ps.partW (inn ++ c), Ps.toB (Ps.runW (wordsS ((Ps.partW inn ++ c).take (Ps.m8 (Ps.partW inn ++ c)))) ((Ps.stW inn).1, (Ps.stW inn).2.1, []))) := by rw [s1]; exact hw
      have hro := Ps.runW_out (wordsS ((Ps.partW inn ++ c).take (Ps.m8 (Ps.partW inn ++ c)))) (Ps.stW inn).1 (Ps.stW inn).2.1 (Ps.stW inn).2.2
      have s2' : Ps.stW (inn ++ c) = Ps.runW (wordsS ((Ps.partW inn ++ c).take (Ps.m8 (Ps.partW inn ++ c)))) ((Ps.stW inn).1, (Ps.stW inn).2.1, (Ps.stW inn).2.2) := s2
      rw [hro] at s2'
      have ih := ch_l0 L hL hl d (i + 1) (by omega) (inn ++ c) (hB.append hcB) (by rw [List.length_append]; omega)
      have wi := wrap_succ i (by omega)
      rcases hR : Ps.runW (wordsS ((Ps.partW inn ++ c).take (Ps.m8 (Ps.partW inn ++ c)))) ((Ps.stW inn).1, (Ps.stW inn).2.1, []) with ⟨z1, r1, o1⟩
      rw [hR] at hw' s2'
      rw [s2'] at ih hol
      simp only [List.length_append] at ih hol
      refine Ev.step (fun k => ?_) ih
      simp only [capnplaw24_PackstreamChunks.l0]
      rw [if_pos (by omega), if_pos (by omega), ← hc, ww, if_neg hb, if_pos (by omega), hw']
      simp only [Option.bind_some, Ps.toB]
      rw [if_pos (by omega), wi]
theorem PackstreamChunks (L : List (List Int)) (hLs : ∀ l ∈ L, l.length * 1 ≤ 140737488351232) (hLw : ∀ l ∈ L, l.length ≤ maxLen ∧ ∀ x ∈ l, (Lit.int .u8 x).wf = true) : ∃ k, capnplaw24_PackstreamChunks.f k L = some true := by
  apply Ev.rounds
  unfold capnplaw24_PackstreamChunks.f
  refine Ev.bind awake24 (Ev.congr (fun k => if_pos rfl) ?_)
  by_cases hl : (L.length : Int) > 40
  · rw [decide_eq_true hl]
    exact Ev.step (fun k => by simp only [capnplaw24_PackstreamChunks.j0]; rfl) (Ev.bind awake24 (Ev.now _))
  · rw [decide_eq_false hl]
    refine Ev.step (f := fun k => capnplaw24_PackstreamChunks.l0 k L [] [] 0 [] 0 []) (fun k => by simp only [capnplaw24_PackstreamChunks.j0]; rw [if_neg (by simp)]; rfl) ?_
    exact ch_l0 L (fun l hl2 => ⟨hLs l hl2, fun x hx => wf_u8 ((hLw l hl2).2 x hx)⟩) (by omega) L.length 0 (by omega) [] IsB.nil (by simp)
end Go.Proofs.Ytibkbgaonjdpiaa.Pure
