/- The law UnpackstreamChunks: for every division of the input into chunks, empty ones included, and every limit, the concatenated output and the final error are those of the one-shot decoding. -/
import Derived.Test.YtpffoecblcfndaaDoorQUnpackstreamChunksC
namespace Go.Proofs.YtpffoecblcfndaaDoor.Pure
open Go Go.RowKit Go.Proofs.YtpffoecblcfndaaDoor Go.Proofs.YtpffoecblcfndaaDoor.M Go.Proofs.YtpffoecblcfndaaDoor.PUnpackstreamChunks Go.Proofs.YtpffoecblcfndaaDoorW.PrintWords Go.Proofs.YtpffoecblcfndaaDoorW.PrintLast Go.Proofs.YtpffoecblcfndaaDoorW.PrintMore
open Go.Proofs.YtpffoecblcfndaaDoor.QVaBase (bitsOnes_all bitsOnes tagOnes unRoom unValid unClose unCloseV unNew)
open Go.Proofs.YtpffoecblcfndaaDoor.PVaBase
open Go.Proofs.YtpffoecblcfndaaDoor.QUnpackstreamChunks
set_option linter.unusedVariables false
set_option linter.unusedSimpArgs false
set_option maxRecDepth 10000
set_option maxHeartbeats 1000000
theorem ch_l0 (L : List (List Int)) (a : Int) (a0 : -9223372036854775808 ≤ a) (a1 : a < 9223372036854775808) (hL : ∀ l ∈ L, l.length * 1 ≤ 140737488351232 ∧ IsB l) (hl : L.length ≤ 40) :
    ∀ (d i : Nat), i + d = L.length → ∀ (inn : List Int), IsB inn → inn.length ≤ 600 → ∀ r : Us.UO, r = Us.runU (Us.limU a) inn (Us.U.mk0 0, []) → Ev (fun k => capnplaw25_UnpackstreamChunks.l0 k L a inn r.2 (i : Int) r.1.st r.1.tag r.1.word r.1.left r.1.done r.1.err) true
  | 0, i, hi, inn, hB, hn, r, hr => by
    have hV : Us.VU r.1 := by rw [hr]; exact Us.run_valid (unLim a) inn _ hB unMk0
    have hdl := decS_len hB
    have hs := Us.run_start hB a (by omega)
    have hd := Us.run_done (lim := Us.limU a) inn (Us.U.mk0 0, []) rfl
    rw [← hr] at hs hd
    have hP := ref22Prefix hB (by omega) a a0 (by omega)
    have hol : r.2.length ≤ 8 * 153600 := by rw [hs.1, bytesS_length, List.length_take]; omega
    refine Ev.step (f := fun k => (capnpref22_Prefix.f k inn a).bind fun bt267 => (capnpref01_Same.f k r.2 bt267.1).bind fun t271 => if t271 = true then (unpackstream_Close.f k r.1.st r.1.tag r.1.word r.1.left r.1.done r.1.err).bind fun t272 => if t272 = bt267.2 then some (r.1.done == (bt267.1.length : Int)) else none else none) (fun k => ?_) (Ev.bind hP (Ev.bind (refSame r.2 _ (by omega)) ?_))
    · simp only [capnplaw25_UnpackstreamChunks.l0]
      rw [if_neg (by omega)]
    · rw [decide_eq_true hs.1]
      have hcl := unCloseV hV
      rw [hs.2] at hcl
      refine Ev.congr (fun k => if_pos rfl) (Ev.bind hcl (Ev.congr (fun k => if_pos rfl) ?_))
      rw [hd, hs.1]
      exact Ev.congr (f := fun _ => some true) (fun k => by simp) (Ev.now _)
  | d + 1, i, hi, inn, hB, hn, r, hr => by
    have hV : Us.VU r.1 := by rw [hr]; exact Us.run_valid (unLim a) inn _ hB unMk0
    have hmem : rd_L2 L (i : Int) ∈ L := by
      unfold rd_L2
      simp only [Int.toNat_natCast, List.getD_eq_getElem?_getD, List.getElem?_eq_getElem (show i < L.length by omega), Option.getD_some]
      exact List.getElem_mem _
    obtain ⟨c, hc⟩ : ∃ c, c = rd_L2 L (i : Int) := ⟨_, rfl⟩
    rw [← hc] at hmem
    obtain ⟨hcl, hcB⟩ := hL c hmem
    have ww : wrap64 ((inn.length : Int) + (c.length : Int)) = (inn.length : Int) + (c.length : Int) := w64 (by omega) (by omega)
    by_cases hb : (inn.length : Int) + (c.length : Int) > 600
    · refine Ev.step (f := fun _ => some true) (fun k => ?_) (Ev.now _)
      simp only [capnplaw25_UnpackstreamChunks.l0]
      rw [if_pos (by omega), if_pos (by omega), ← hc, ww, if_pos hb]
    · have hw := unWrite hV hcB (by omega) a
      obtain ⟨q, hq⟩ : ∃ q, q = Us.runU (Us.limU a) c (r.1, []) := ⟨_, rfl⟩
      have hql := Us.run_len (lim := Us.limU a) c (r.1, []) hcB
      rw [← hq] at hw hql
      have hol := Us.run_len (lim := Us.limU a) inn (Us.U.mk0 0, []) hB
      rw [← hr] at hol
      simp only [List.length_nil] at hol hql
      have hn2 : (q.1, r.2 ++ q.2) = Us.runU (Us.limU a) (inn ++ c) (Us.U.mk0 0, []) := by
        rw [Us.run_append, ← hr, hq]
        exact (Us.run_out (Us.limU a) c r.1 r.2).symm
      have ih := ch_l0 L a a0 a1 hL hl d (i + 1) (by omega) (inn ++ c) (hB.append hcB) (by rw [List.length_append]; omega) (q.1, r.2 ++ q.2) hn2
      have wi := wrap_succ i (by omega)
      refine Ev.step (fun k => ?_) ih
      simp only [capnplaw25_UnpackstreamChunks.l0]
      rw [if_pos (by omega), if_pos (by omega), ← hc, ww, if_neg hb, if_pos (by omega), hw]
      simp only [Option.bind_some, Us.outF, if_true]
      rw [if_pos (by omega), wi]
theorem UnpackstreamChunks (L : List (List Int)) (hLs : ∀ l ∈ L, l.length * 1 ≤ 140737488351232) (hLw : ∀ l ∈ L, l.length ≤ maxLen ∧ ∀ x ∈ l, (Lit.int .u8 x).wf = true) (a : Int) (ha : (Lit.int .i64 a).wf = true) : ∃ k, capnplaw25_UnpackstreamChunks.f k L a = some true := by
  obtain ⟨a0, a1⟩ := wf_i64 ha
  apply Ev.rounds
  unfold capnplaw25_UnpackstreamChunks.f
  refine Ev.bind awake25 (Ev.congr (fun k => if_pos rfl) ?_)
  by_cases hl : (L.length : Int) > 40
  · rw [decide_eq_true hl]
    exact Ev.step (fun k => by simp only [capnplaw25_UnpackstreamChunks.j0]; rfl) (Ev.bind awake25 (Ev.now _))
  · rw [decide_eq_false hl]
    refine Ev.step (f := fun k => capnplaw25_UnpackstreamChunks.l0 k L a [] [] 0 0 0 [] 0 0 0) (fun k => by simp only [capnplaw25_UnpackstreamChunks.j0]; rw [if_neg (by simp)]; rfl) ?_
    exact ch_l0 L a a0 a1 (fun l hl2 => ⟨hLs l hl2, fun x hx => wf_u8 ((hLw l hl2).2 x hx)⟩) (by omega) L.length 0 (by omega) [] IsB.nil (by simp) (Us.U.mk0 0, []) rfl
end Go.Proofs.YtpffoecblcfndaaDoor.Pure
