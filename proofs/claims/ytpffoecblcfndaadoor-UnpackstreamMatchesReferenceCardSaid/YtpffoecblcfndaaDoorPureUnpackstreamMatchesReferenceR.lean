/- The law UnpackstreamMatchesReference: for every state, valid or not, all bytes and every limit, all functions return what the reference implementation returns. -/
import Derived.Test.YtpffoecblcfndaaDoorQUnpackstreamMatchesReferenceR
namespace Go.Proofs.YtpffoecblcfndaaDoor.Pure
open Go Go.RowKit Go.Proofs.YtpffoecblcfndaaDoor Go.Proofs.YtpffoecblcfndaaDoor.M Go.Proofs.YtpffoecblcfndaaDoor.PUnpackstreamMatchesReference Go.Proofs.YtpffoecblcfndaaDoorW.PrintWords Go.Proofs.YtpffoecblcfndaaDoorW.PrintLast Go.Proofs.YtpffoecblcfndaaDoorW.PrintMore
open Go.Proofs.YtpffoecblcfndaaDoor.QVaBase (bitsOnes_all bitsOnes tagOnes unRoom unValid unClose unCloseV unNew)
open Go.Proofs.YtpffoecblcfndaaDoor.PVaBase
open Go.Proofs.YtpffoecblcfndaaDoor.QUnpackstreamMatchesReference
set_option linter.unusedVariables false
set_option linter.unusedSimpArgs false
set_option maxRecDepth 10000
set_option maxHeartbeats 1000000
theorem mr_j0 (u : Us.U) (p : List Int) (lim : Int) (t0 : 0 ≤ u.tag) (t1 : u.tag < 256) (hw : IsB u.word) (hwl : u.word.length ≤ 3000) (hB : IsB p) (hp : p.length ≤ 400) :
    Ev (fun k => capnplaw25_UnpackstreamMatchesReference.j0 k p lim false u.st u.tag u.word u.left u.done u.err) true := by
  have hwr := ref25Write (u := u) t0 t1 hw hB hp lim
  have hva := ref25Valid u.st u.tag u.word u.left u.done u.err t0 t1
  have hvp := unValid u.st u.tag u.word u.left u.done u.err t0 t1
  have hcl := ref25Close u.st u.tag u.word u.left u.done u.err t0 t1
  have hcp := unClose u.st u.tag u.word u.left u.done u.err t0 t1
  have hwf := Us.writeF_eq (tag := u.tag) (word := u.word) (p := p) (by omega) (by omega) t0 t1 hw hB u.st u.left u.done u.err lim
  obtain ⟨r, hr⟩ : ∃ r, r = (if Us.validB u = true then Us.outF (Us.runU (Us.limU lim) p (u, [])) else (u.st, u.tag, u.word, u.left, u.done, u.err, [], 12)) := ⟨_, rfl⟩
  have hwf2 : unpackstream_Write.f u.st u.tag u.word u.left u.done u.err p lim = some r := by rw [hr]; exact hwf
  rw [← hr] at hwr
  have hlen : r.2.2.1.length ≤ 100000 ∧ r.2.2.2.2.2.2.1.length ≤ 10000000 := by
    rw [hr]
    by_cases hv : Us.validB u = true
    · rw [if_pos hv]
      have hV := Us.validB_V hv t0 t1 hw
      have h1 := room_le (Us.run_valid (unLim lim) p (u, []) hB hV)
      have h2 := Us.run_len (lim := Us.limU lim) p (u, []) hB
      simp only [List.length_nil] at h2
      simp only [Us.outF]
      omega
    · rw [if_neg hv]
      simp only [List.length_nil]; omega
  obtain ⟨r1, r2, r3, r4, r5, r6, r7, r8⟩ := r
  simp only at hlen
  refine Ev.step (f := fun k => (capnpref25_Write.f k u.st u.tag u.word u.left u.done u.err p lim).bind fun bt346 => ((unpackstream_Valid.f k u.st u.tag u.word u.left u.done u.err).bind fun t359 => ((capnpref25_Valid.f k u.st u.tag u.word u.left u.done u.err).bind fun t360 => (if (t359 == t360) = true then ((capnpref25_Same.f k r1 r2 r3 r4 r5 r6 bt346.1 bt346.2.1 bt346.2.2.1 bt346.2.2.2.1 bt346.2.2.2.2.1 bt346.2.2.2.2.2.1).bind fun t361 => (if t361 = true then ((capnpref01_Same.f k r7 bt346.2.2.2.2.2.2.1).bind fun t362 => (if t362 = true then (if r8 = bt346.2.2.2.2.2.2.2 then ((unpackstream_Close.f k u.st u.tag u.word u.left u.done u.err).bind fun t363 => ((capnpref25_Close.f k u.st u.tag u.word u.left u.done u.err).bind fun t364 => (some (t363 == t364)))) else (none)) else (none))) else (none))) else (none))))) (fun k => ?_) ?_
  · simp only [capnplaw25_UnpackstreamMatchesReference.j0]
    rw [if_neg (by decide), hwf2, Option.bind_some]
  · refine Ev.bind hwr (Ev.bind hvp (Ev.bind hva (Ev.congr (fun k => if_pos (by simp)) (Ev.bind (ref25Same ⟨r1, r2, r3, r4, r5, r6⟩ ⟨r1, r2, r3, r4, r5, r6⟩ (by simp only; omega)) ?_))))
    rw [decide_eq_true ⟨rfl, rfl, rfl, rfl, rfl, rfl⟩]
    refine Ev.congr (fun k => if_pos rfl) (Ev.bind (refSame r7 r7 (by omega)) ?_)
    rw [decide_eq_true rfl]
    refine Ev.congr (fun k => if_pos rfl) (Ev.congr (fun k => if_pos rfl) (Ev.bind hcp (Ev.bind hcl ?_)))
    exact Ev.congr (f := fun _ => some true) (fun k => by simp) (Ev.now _)
theorem UnpackstreamMatchesReference (st tag : Int) (word : List Int) (left done err : Int) (hwd : ∀ x ∈ word, (Lit.int .u8 x).wf = true) (hlen : word.length ≤ 140737488351232) (z0 : (Lit.int .i64 st).wf = true) (z1 : (Lit.int .u8 tag).wf = true) (z3 : (Lit.int .i64 left).wf = true) (z4 : (Lit.int .i64 done).wf = true) (z5 : (Lit.int .i64 err).wf = true)
    (p : List Int) (hps : p.length * 1 ≤ 140737488351232) (hpw : ∀ x ∈ p, (Lit.int .u8 x).wf = true) (lim : Int) (hlim : (Lit.int .i64 lim).wf = true) :
    ∃ k, capnplaw25_UnpackstreamMatchesReference.f k st tag word left done err p lim = some true := by
  have hB : IsB word := fun x hx => wf_u8 (hwd x hx)
  have hP : IsB p := fun x hx => wf_u8 (hpw x hx)
  obtain ⟨t0, t1⟩ := wf_u8 z1
  apply Ev.rounds
  unfold capnplaw25_UnpackstreamMatchesReference.f
  refine Ev.bind awake25 (Ev.congr (fun k => if_pos rfl) ?_)
  have out : Ev (fun k => capnplaw25_UnpackstreamMatchesReference.j0 k p lim true st tag word left done err) true := Ev.step (fun k => by simp only [capnplaw25_UnpackstreamMatchesReference.j0]; rfl) (Ev.bind awake25 (Ev.now _))
  by_cases g1 : (word.length : Int) > 3000
  · exact Ev.congr (fun k => if_pos g1) out
  · refine Ev.congr (fun k => if_neg g1) ?_
    by_cases g2 : (p.length : Int) > 400
    · rw [decide_eq_true g2]; exact out
    · rw [decide_eq_false g2]
      exact mr_j0 ⟨st, tag, word, left, done, err⟩ p lim t0 t1 hB (by simp only; omega) hP (by omega)
end Go.Proofs.YtpffoecblcfndaaDoor.Pure
