/- The law UnpackstreamHolds: after every input and under every limit, the state is valid and holds at most 7 bytes, and the output never exceeds the limit. -/
import Derived.Test.YtpffoecblcfndaaDoorQUnpackstreamHoldsH
namespace Go.Proofs.YtpffoecblcfndaaDoor.Pure
open Go Go.RowKit Go.Proofs.YtpffoecblcfndaaDoor Go.Proofs.YtpffoecblcfndaaDoor.M Go.Proofs.YtpffoecblcfndaaDoor.PUnpackstreamHolds Go.Proofs.YtpffoecblcfndaaDoorW.PrintWords Go.Proofs.YtpffoecblcfndaaDoorW.PrintLast Go.Proofs.YtpffoecblcfndaaDoorW.PrintMore Go.Proofs.YtpffoecblcfndaaDoor.QUnpackstreamHolds
set_option linter.unusedVariables false
set_option linter.unusedSimpArgs false
set_option maxRecDepth 10000
set_option maxHeartbeats 1000000
theorem UnpackstreamHolds : capnplaw25_UnpackstreamHolds.Pure := by
  intro p a h1 h2 h3 h4
  have hB : IsB p := fun x hx => wf_u8 (h3 x hx)
  apply Ev.rounds
  unfold capnplaw25_UnpackstreamHolds.f
  refine Ev.bind awake25 (Ev.congr (fun k => if_pos rfl) ?_)
  by_cases hl : (p.length : Int) > 400
  · rw [decide_eq_true hl]
    exact Ev.step (fun k => by simp only [capnplaw25_UnpackstreamHolds.j0]; rfl) (Ev.bind awake25 (Ev.now _))
  · rw [decide_eq_false hl]
    have hw := unWrite unMk0 hB (by omega) a
    have hV := Us.run_valid (unLim a) p (Us.U.mk0 0, []) hB unMk0
    have hd := Us.run_done (lim := Us.limU a) p (Us.U.mk0 0, []) rfl
    have hle := Us.run_le (lim := Us.limU a) p (Us.U.mk0 0, []) (show (0 : Int) ≤ max (Us.limU a) 0 by omega)
    obtain ⟨r, hr⟩ : ∃ r, r = Us.runU (Us.limU a) p (Us.U.mk0 0, []) := ⟨_, rfl⟩
    rw [← hr] at hw hV hd hle
    have hm : mx a 0 = max a 0 := by unfold mx; omega
    have hlu : max (Us.limU a) 0 ≤ max a 0 := by unfold Us.limU; omega
    have hd8 := hV.d8
    refine Ev.step (f := fun k => (unpackstream_Valid.f k r.1.st r.1.tag r.1.word r.1.left r.1.done r.1.err).bind fun t228 => if t228 = true then (if (r.1.word.length : Int) ≤ 7 then (if r.1.done = (r.2.length : Int) then (if (r.2.length : Int) ≤ (mx a 0) then (if ((r.2.length : Int) % 8) = 0 then (if r.1.err = 0 then (some true) else (some (r.1.err == 11))) else (some false)) else (some false)) else (some false)) else (some false)) else (some false)) (fun k => ?_) (Ev.bind (unValid _ _ _ _ _ _ hV.tb0 hV.tb1) ?_)
    · simp only [capnplaw25_UnpackstreamHolds.j0]
      rw [if_neg (by simp), unNew]
      simp only [Option.bind_some]
      rw [show unpackstream_Write.f 0 0 [] 0 0 0 p a = some (Us.outF r) from hw]
      rfl
    · rw [show Us.validB ⟨r.1.st, r.1.tag, r.1.word, r.1.left, r.1.done, r.1.err⟩ = true from Us.V_validB hV]
      have h7 := room_le hV
      refine Ev.congr (f := fun _ => some true) (fun k => ?_) (Ev.now _)
      rw [if_pos rfl, if_pos (by omega), if_pos hd, if_pos (by rw [hm]; omega), if_pos (by omega)]
      rcases hV.e with he | he
      · rw [if_pos he]
      · rw [if_neg (by omega), he]; rfl
end Go.Proofs.YtpffoecblcfndaaDoor.Pure
