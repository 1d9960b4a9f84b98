/- The law UnpackstreamSplit: from every state, writing two pieces one after the other has the same result as writing them at once. -/
import Derived.Test.YtpffoecblcfndaaDoorQUnpackstreamSplitS
namespace Go.Proofs.YtpffoecblcfndaaDoor.Pure
open Go Go.RowKit Go.Proofs.YtpffoecblcfndaaDoor Go.Proofs.YtpffoecblcfndaaDoor.M Go.Proofs.YtpffoecblcfndaaDoor.PUnpackstreamSplit Go.Proofs.YtpffoecblcfndaaDoorW.PrintWords Go.Proofs.YtpffoecblcfndaaDoorW.PrintLast Go.Proofs.YtpffoecblcfndaaDoorW.PrintMore
open Go.Proofs.YtpffoecblcfndaaDoor.QVaBase (bitsOnes_all bitsOnes tagOnes unRoom unValid unClose unCloseV unNew)
open Go.Proofs.YtpffoecblcfndaaDoor.PVaBase
open Go.Proofs.YtpffoecblcfndaaDoor.QUnpackstreamSplit
set_option linter.unusedVariables false
set_option linter.unusedSimpArgs false
set_option maxRecDepth 10000
set_option maxHeartbeats 1000000
def tup (r : Us.UO) (e : Int) : Int × Int × List Int × Int × Int × Int × List Int × Int := (r.1.st, r.1.tag, r.1.word, r.1.left, r.1.done, r.1.err, r.2, e)
theorem split_j0 (u : Us.U) (a b : List Int) (lim : Int) (r1 r2 r3 : Us.UO) (e1 e2 e3 : Int) (ha : a.length ≤ 400) (hb : b.length ≤ 400)
    (h1 : unpackstream_Write.f u.st u.tag u.word u.left u.done u.err a lim = some (tup r1 e1)) (h2 : unpackstream_Write.f r1.1.st r1.1.tag r1.1.word r1.1.left r1.1.done r1.1.err b lim = some (tup r2 e2))
    (h3 : unpackstream_Write.f u.st u.tag u.word u.left u.done u.err (a ++ b) lim = some (tup r3 e3)) (hs : r2.1 = r3.1) (ho : r1.2 ++ r2.2 = r3.2) (he : e2 = e3) (hw : r2.1.word.length ≤ 100000) (hl : r1.2.length + r2.2.length ≤ 100000000) :
    Ev (fun k => capnplaw25_UnpackstreamSplit.j0 k a b lim false u.st u.tag u.word u.left u.done u.err) true := by
  refine Ev.step (f := fun k => (capnpref25_Same.f k r2.1.st r2.1.tag r2.1.word r2.1.left r2.1.done r2.1.err r3.1.st r3.1.tag r3.1.word r3.1.left r3.1.done r3.1.err).bind fun t256 => if t256 = true then (capnpref01_Same.f k (r1.2 ++ r2.2) r3.2).bind fun t266 => if t266 = true then some (e2 == e3) else none else none) (fun k => ?_) ?_
  · simp only [capnplaw25_UnpackstreamSplit.j0]
    rw [if_neg (by simp), h1]
    simp only [Option.bind_some, tup, List.length_nil, List.nil_append]
    rw [h2]
    simp only [Option.bind_some, tup]
    rw [if_pos (by omega), if_pos (by omega), h3]
    simp only [Option.bind_some, tup]
    rw [if_pos (by omega), if_pos (by omega)]
  · refine Ev.bind (ref25Same r2.1 r3.1 (by omega)) ?_
    rw [decide_eq_true (by rw [hs]; exact ⟨rfl, rfl, rfl, rfl, rfl, rfl⟩)]
    refine Ev.congr (fun k => if_pos rfl) (Ev.bind (refSame _ _ (by rw [List.length_append]; omega)) ?_)
    rw [decide_eq_true ho, he]
    exact Ev.congr (f := fun _ => some true) (fun k => by simp) (Ev.now _)
theorem UnpackstreamSplit (st tag : Int) (word : List Int) (left done err : Int) (hwd : ∀ x ∈ word, (Lit.int .u8 x).wf = true) (hlen : word.length ≤ 140737488351232) (z0 : (Lit.int .i64 st).wf = true) (z1 : (Lit.int .u8 tag).wf = true) (z3 : (Lit.int .i64 left).wf = true) (z4 : (Lit.int .i64 done).wf = true) (z5 : (Lit.int .i64 err).wf = true)
    (a : List Int) (has : a.length * 1 ≤ 140737488351232) (haw : ∀ x ∈ a, (Lit.int .u8 x).wf = true) (b : List Int) (hbs : b.length * 1 ≤ 140737488351232) (hbw : ∀ x ∈ b, (Lit.int .u8 x).wf = true) (lim : Int) (hlim : (Lit.int .i64 lim).wf = true) :
    ∃ k, capnplaw25_UnpackstreamSplit.f k st tag word left done err a b lim = some true := by
  have hB : IsB word := fun x hx => wf_u8 (hwd x hx)
  have hA : IsB a := fun x hx => wf_u8 (haw x hx)
  have hBb : IsB b := fun x hx => wf_u8 (hbw x hx)
  obtain ⟨t0, t1⟩ := wf_u8 z1
  apply Ev.rounds
  unfold capnplaw25_UnpackstreamSplit.f
  refine Ev.bind awake25 (Ev.congr (fun k => if_pos rfl) ?_)
  have out : Ev (fun k => capnplaw25_UnpackstreamSplit.j0 k a b lim true st tag word left done err) true := Ev.step (fun k => by simp only [capnplaw25_UnpackstreamSplit.j0]; rfl) (Ev.bind awake25 (Ev.now _))
  by_cases g1 : (word.length : Int) > 7
  · exact Ev.congr (fun k => if_pos g1) out
  · refine Ev.congr (fun k => if_neg g1) ?_
    by_cases g2 : (a.length : Int) > 400
    · exact Ev.congr (fun k => if_pos g2) out
    · refine Ev.congr (fun k => if_neg g2) ?_
      by_cases g3 : (b.length : Int) > 400
      · rw [decide_eq_true g3]; exact out
      · rw [decide_eq_false g3]
        obtain ⟨u, hu⟩ : ∃ u : Us.U, u = ⟨st, tag, word, left, done, err⟩ := ⟨_, rfl⟩
        by_cases hv : Us.validB u = true
        · have hV := Us.validB_V hv (by rw [hu]; exact t0) (by rw [hu]; exact t1) (by rw [hu]; exact hB)
          have w1 := unWrite hV hA (by omega) lim
          have w3 := unWrite hV (hA.append hBb) (by rw [List.length_append]; omega) lim
          obtain ⟨r1, hr1⟩ : ∃ r1, r1 = Us.runU (Us.limU lim) a (u, []) := ⟨_, rfl⟩
          have hV1 : Us.VU r1.1 := by rw [hr1]; exact Us.run_valid (unLim lim) a (u, []) hA hV
          have w2 := unWrite hV1 hBb (by omega) lim
          obtain ⟨r2, hr2⟩ : ∃ r2, r2 = Us.runU (Us.limU lim) b (r1.1, []) := ⟨_, rfl⟩
          have hV2 : Us.VU r2.1 := by rw [hr2]; exact Us.run_valid (unLim lim) b (r1.1, []) hBb hV1
          have l1 := Us.run_len (lim := Us.limU lim) a (u, []) hA
          have l2 := Us.run_len (lim := Us.limU lim) b (r1.1, []) hBb
          rw [← hr1] at w1 l1
          rw [← hr2] at w2 l2
          have h3 : Us.runU (Us.limU lim) (a ++ b) (u, []) = (r2.1, r1.2 ++ r2.2) := by rw [Us.run_append, ← hr1, hr2]; exact Us.run_out (Us.limU lim) b r1.1 r1.2
          rw [h3] at w3
          have h7 := room_le hV2
          simp only [List.length_nil] at l1 l2
          have := split_j0 u a b lim r1 r2 (r2.1, r1.2 ++ r2.2) r1.1.err r2.1.err r2.1.err (by omega) (by omega) w1 w2 w3 rfl rfl rfl (by omega) (by omega)
          rw [hu] at this
          exact this
        · have wf : ∀ p : List Int, IsB p → p.length ≤ 1000000000 → unpackstream_Write.f u.st u.tag u.word u.left u.done u.err p lim = some (tup (u, []) 12) := by
            intro p hp hpl
            have := Us.writeF_eq (tag := u.tag) (word := u.word) (by rw [hu]; simp only; omega) hpl (by rw [hu]; exact t0) (by rw [hu]; exact t1) (by rw [hu]; exact hB) hp u.st u.left u.done u.err lim
            rw [if_neg hv] at this
            exact this
          have := split_j0 u a b lim (u, []) (u, []) (u, []) 12 12 12 (by omega) (by omega) (wf a hA (by omega)) (wf b hBb (by omega)) (wf _ (hA.append hBb) (by rw [List.length_append]; omega)) rfl rfl rfl (by rw [hu]; simp only; omega) (by simp)
          rw [hu] at this
          exact this
end Go.Proofs.YtpffoecblcfndaaDoor.Pure
