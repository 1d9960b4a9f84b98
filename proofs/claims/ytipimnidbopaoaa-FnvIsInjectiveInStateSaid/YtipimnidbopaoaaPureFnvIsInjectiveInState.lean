/- The law FnvIsInjectiveInState: for byte sequences of at most 500 bytes, different states lead to different states after the same bytes; different single bytes lead to different states. -/
import Derived.Test.YtipimnidbopaoaaQFnvIsInjectiveInState
namespace Go.Proofs.Ytipimnidbopaoaa.Pure
open Go Go.RowKit Go.Proofs.Ytipimnidbopaoaa.M Go.Proofs.Ytipimnidbopaoaa.PFnvIsInjectiveInState Go.Proofs.YtipimnidbopaoaaW.PrintWords Go.Proofs.YtipimnidbopaoaaW.PrintLast Go.Proofs.YtipimnidbopaoaaW.PrintMore Go.Proofs.Ytipimnidbopaoaa.QFnvIsInjectiveInState
set_option linter.unusedVariables false
set_option linter.unusedSimpArgs false
set_option maxRecDepth 10000

theorem FnvIsInjectiveInState : capnplaw18_FnvIsInjectiveInState.Pure := by
  intro s t b c d w0 w1 _ _ hb w3 w4
  have hs := wf_u64 w0
  have ht := wf_u64 w1
  have hc := wf_u8 w3
  have hd := wf_u8 w4
  have hB := isB_of hb
  apply Ev.rounds
  unfold capnplaw18_FnvIsInjectiveInState.f
  refine Ev.bind awake18 (Ev.congr (fun k => if_pos (by simp)) ?_)
  by_cases h0 : (b.length : Int) > 500
  · rw [decide_eq_true h0]
    exact Ev.step (fun k => by simp only [capnplaw18_FnvIsInjectiveInState.j0]; rfl) (Ev.bind awake18 (Ev.now _))
  · rw [decide_eq_false h0]
    have e1 : ((fnvS s b == fnvS t b) == (s == t)) = true := by
      have := fnvS_state b hB s t hs ht
      rw [beq_iff_eq, Bool.eq_iff_iff, beq_iff_eq, beq_iff_eq]; exact this
    have e2 : ((fnvS s [c] == fnvS s [d]) == (c == d)) = true := by
      have := stepS_byte hs hc hd
      rw [beq_iff_eq, Bool.eq_iff_iff, beq_iff_eq, beq_iff_eq]; exact this
    refine Ev.step (fun k => by simp only [capnplaw18_FnvIsInjectiveInState.j0]; rfl) (Ev.congr (fun k => if_neg (by simp)) ?_)
    refine Ev.bind (fnvAdd b hB (by omega) s hs) (Ev.bind (fnvAdd b hB (by omega) t ht) (Ev.congr (fun k => if_pos e1) ?_))
    refine Ev.bind (fnvAdd [c] (IsB.cons hc.1 hc.2 IsB.nil) (by simp) s hs) (Ev.bind (fnvAdd [d] (IsB.cons hd.1 hd.2 IsB.nil) (by simp) s hs) ?_)
    rw [e2]; exact Ev.now _
end Go.Proofs.Ytipimnidbopaoaa.Pure
