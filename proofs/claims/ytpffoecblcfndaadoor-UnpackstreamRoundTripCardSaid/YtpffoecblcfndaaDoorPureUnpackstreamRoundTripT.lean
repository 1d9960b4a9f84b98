/- The law UnpackstreamRoundTrip: decoding the packed form of words byte by byte outputs the words. -/
import Derived.Test.YtpffoecblcfndaaDoorQUnpackstreamRoundTripT
namespace Go.Proofs.YtpffoecblcfndaaDoor.Pure
open Go Go.RowKit Go.Proofs.YtpffoecblcfndaaDoor Go.Proofs.YtpffoecblcfndaaDoor.M Go.Proofs.YtpffoecblcfndaaDoor.PUnpackstreamRoundTrip Go.Proofs.YtpffoecblcfndaaDoorW.PrintWords Go.Proofs.YtpffoecblcfndaaDoorW.PrintLast Go.Proofs.YtpffoecblcfndaaDoorW.PrintMore
open Go.Proofs.YtpffoecblcfndaaDoor.QVaBase (bitsOnes_all bitsOnes tagOnes unRoom unValid unClose unCloseV unNew)
open Go.Proofs.YtpffoecblcfndaaDoor.QUnpackstreamRoundTrip
set_option linter.unusedVariables false
set_option linter.unusedSimpArgs false
set_option maxRecDepth 10000
set_option maxHeartbeats 1000000
theorem bytesS_take : ∀ (n : Nat) (l : List Int), (bytesS l).take (8 * n) = bytesS (l.take n)
  | 0, l => by simp [bytesS]
  | n + 1, [] => by simp [bytesS]
  | n + 1, x :: l => by
    rw [bytesS_cons, List.take_succ_cons, bytesS_cons, ← bytesS_take n l, List.take_append, bs_length, show 8 * (n + 1) - 8 = 8 * n by omega, List.take_of_length_le (by rw [bs_length]; omega)]
theorem rt_l0 (a : Int) (p b : List Int) (hB : IsB p) (hp : p.length ≤ 100000) (R : Us.UO → Prop) (hR : R (Us.runU (Us.limU a) p (Us.U.mk0 0, [])))
    (fin : ∀ r : Us.UO, R r → Ev (fun k => capnplaw25_UnpackstreamRoundTrip.l0 (k + 1) a p b r.2 (p.length : Int) r.1.st r.1.tag r.1.word r.1.left r.1.done r.1.err) true) :
    ∀ (d i : Nat), i + d = p.length → ∀ r : Us.UO, r = Us.runU (Us.limU a) (p.take i) (Us.U.mk0 0, []) → Ev (fun k => capnplaw25_UnpackstreamRoundTrip.l0 k a p b r.2 (i : Int) r.1.st r.1.tag r.1.word r.1.left r.1.done r.1.err) true
  | 0, i, hi, r, hr => by
    obtain rfl : i = p.length := by omega
    rw [List.take_length] at hr
    exact Ev.step (fun k => rfl) (fin r (by rw [hr]; exact hR))
  | d + 1, i, hi, r, hr => by
    have hV : Us.VU r.1 := by rw [hr]; exact Us.run_valid (unLim a) _ _ (hB.take i) unMk0
    have hol : r.2.length ≤ 2048 * 100000 := by
      have := Us.run_len (lim := Us.limU a) (p.take i) (Us.U.mk0 0, []) (hB.take i)
      rw [← hr, List.length_take] at this
      simp only [List.length_nil] at this; omega
    have hc : (p.take (i + 1)).drop i = [rd p (i : Int)] := by
      rw [take_rd (by omega), List.drop_append_of_le_length (by rw [List.length_take]; omega), List.drop_of_length_le (by rw [List.length_take]; omega), List.nil_append]
    have hB1 : IsB [rd p (i : Int)] := IsB.cons (rd_B hB _).1 (rd_B hB _).2 IsB.nil
    have hw := unWrite hV hB1 (by simp) a
    obtain ⟨q, hq⟩ : ∃ q, q = Us.runU (Us.limU a) [rd p (i : Int)] (r.1, []) := ⟨_, rfl⟩
    rw [← hq] at hw
    have hn : (q.1, r.2 ++ q.2) = Us.runU (Us.limU a) (p.take (i + 1)) (Us.U.mk0 0, []) := by
      rw [take_rd (by omega), Us.run_append, ← hr, hq]
      exact (Us.run_out (Us.limU a) [rd p (i : Int)] r.1 r.2).symm
    have hql : q.2.length ≤ 2048 := by
      have := Us.run_len (lim := Us.limU a) [rd p (i : Int)] (r.1, []) hB1
      rw [← hq] at this; simpa using this
    have ih := rt_l0 a p b hB hp R hR fin d (i + 1) (by omega) (q.1, r.2 ++ q.2) hn
    have wi := wrap_succ i (by omega)
    refine Ev.step (fun k => ?_) ih
    simp only [capnplaw25_UnpackstreamRoundTrip.l0]
    rw [if_pos (by omega), if_pos (by omega), wi, if_pos (by omega), if_pos (by omega)]
    simp only [Int.toNat_natCast]
    rw [hc, hw]
    simp only [Option.bind_some, Us.outF]
    rw [if_pos (by omega)]
theorem UnpackstreamRoundTrip : capnplaw25_UnpackstreamRoundTrip.Pure := by
  intro ws a h1 h2 h3 h4
  have hW : IsW ws := fun x hx => wf_u64 (h3 x hx)
  obtain ⟨a0, a1⟩ := wf_i64 h4
  apply Ev.rounds
  unfold capnplaw25_UnpackstreamRoundTrip.f
  refine Ev.bind awake25 (Ev.congr (fun k => if_pos rfl) ?_)
  by_cases hl : (ws.length : Int) > 300
  · rw [decide_eq_true hl]
    exact Ev.step (fun k => by simp only [capnplaw25_UnpackstreamRoundTrip.j0]; rfl) (Ev.bind awake25 (Ev.now _))
  · rw [decide_eq_false hl]
    have hpB := packS_isB ws
    have hpl := packS_length_le ws
    have hm : mx a 0 = max a 0 := by unfold mx; omega
    have hs := Us.run_start hpB a (by rw [dec_packS hW]; simp only; omega)
    rw [dec_packS hW] at hs
    simp only [Bool.false_eq_true, if_false] at hs
    have hVe := Us.run_valid (unLim a) (packS ws) (Us.U.mk0 0, []) hpB unMk0
    have hbl : (bytesS ws).length = 8 * ws.length := bytesS_length ws
    refine Ev.step (fun k => by simp only [capnplaw25_UnpackstreamRoundTrip.j0]; rw [if_neg (by simp)]) (Ev.bind (ref21Words ws hW (by omega)) (Ev.bind (refBytes ws hW (by omega)) ?_))
    refine Ev.congr (f := fun k => capnplaw25_UnpackstreamRoundTrip.l0 k a (packS ws) (bytesS ws) [] 0 0 0 [] 0 0 0) (fun k => rfl) ?_
    refine rt_l0 a (packS ws) (bytesS ws) hpB (by omega) (fun r => (r.2 = bytesS (ws.take (max a 0 / 8).toNat) ∧ Us.closeU r.1 = (if (max a 0 / 8).toNat < ws.length then 11 else 0)) ∧ Us.VU r.1) ⟨hs, hVe⟩ (fun r ⟨⟨hr1, hr2⟩, hV⟩ => ?_) (packS ws).length 0 (by omega) (Us.U.mk0 0, []) rfl
    have hol : r.2.length = 8 * min (max a 0 / 8).toNat ws.length := by rw [hr1, bytesS_length, List.length_take]
    simp only [capnplaw25_UnpackstreamRoundTrip.l0]
    refine Ev.congr (fun k => if_neg (by omega)) ?_
    rw [hm]
    by_cases hc : ((bytesS ws).length : Int) > max a 0
    · refine Ev.congr (fun k => if_pos hc) ?_
      have hlt : (max a 0 / 8).toNat < ws.length := by omega
      rw [if_pos hlt] at hr2
      have he : r.1.err = 11 := by
        rcases hV.e with e | e
        · unfold Us.closeU at hr2; rw [if_neg (by simp [e])] at hr2; split at hr2 <;> omega
        · exact e
      have hw : wrap64 (wrap64 (max a 0 / 8) * 8) = 8 * ((max a 0 / 8).toNat : Int) := by rw [w64 (x := max a 0 / 8) (by omega) (by omega), w64 (by omega) (by omega)]; omega
      have htk : (bytesS ws).take r.2.length = r.2 := by
        rw [hr1, bytesS_length, List.length_take, show min (max a 0 / 8).toNat ws.length = (max a 0 / 8).toNat by omega, bytesS_take]
      refine Ev.congr (fun k => if_pos he) (Ev.congr (fun k => if_pos (by rw [hw, hol]; omega)) (Ev.congr (fun k => if_pos (by omega)) (Ev.congr (fun k => if_pos (by omega)) ?_)))
      rw [Int.toNat_natCast, htk]
      refine Ev.bind (refSame _ _ (by omega)) ?_
      rw [decide_eq_true rfl]
      exact Ev.now _
    · refine Ev.congr (fun k => if_neg hc) ?_
      rw [if_neg (by omega)] at hr2
      have hcl := unCloseV hV
      rw [hr2] at hcl
      refine Ev.bind hcl (Ev.congr (fun k => if_pos rfl) ?_)
      have ho : r.2 = bytesS ws := by rw [hr1, List.take_of_length_le (by omega)]
      refine Ev.bind (refSame _ _ (by omega)) ?_
      rw [decide_eq_true ho]
      exact Ev.now _
end Go.Proofs.YtpffoecblcfndaaDoor.Pure
