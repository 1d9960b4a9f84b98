/- The row of the law FrameMatchesReference: its arguments read as plain data; the printed walk, and the pure statement behind it. -/
import Derived.Test.YtcdkgccmmfjnhaaRows
import Derived.Test.YtcdkgccmmfjnhaaPFrameMatchesReferencex5
import Derived.Test.YtcdkgccmmfjnhaaPureFrameMatchesReference
import Derived.Test.YtcdkgccmmfjnhaaRowS
import Derived.WalkKit
import Derived.ProofKit
import Derived.OpenShut
import Derived.ShutString
import Derived.ChangeOld
import Derived.Below
import Derived.SizedLaws
import Derived.Test.YtcdkgccmmfjnhaaWSized
namespace Go.Proofs.Ytcdkgccmmfjnhaa.frameMatchesReference
open Go.ChangeShapes Go.WideShapes Go.ChangeAt Go.RowKit Go.Proofs.YtcdkgccmmfjnhaaW.PrintWords
set_option linter.unusedVariables false
set_option linter.unusedSimpArgs false
theorem own : ownKnob Try.prog.godebug = none := by kernel_rfl
theorem laidOut : laidOutB Try.prog = true := by kernel_rfl
set_option maxRecDepth 100000 in
theorem lifted (os : Os) (started : os.Started) (H : Type) (enc : TypeId × Value → H) :
    ReturnsInHanded {} Try.checked os 3 .any (Rows.frameMatchesReferenceSpec.pre6 enc Try.prog Try.f3 Rows.frameMatchesReferenceRow.domain false) (Rows.frameMatchesReferenceSpec.post enc Try.prog Try.f3 false true false false) := by
  refine returnsInHanded_of_change_sized (C := Try.checked) own started (by kernel_rfl) Try.func3
    (ChangeSpec.witness6 (enc := enc) (C := Try.checked) false ⟨#[], #[.slice none 0 0, .slice none 0 0, .int .u16 0], []⟩ 8 (by kernel_rfl) (by kernel_rfl) (by kernel_rfl) (by kernel_rfl)) ?_
  intro W base args ds gs before hval0 hW hcnd hsz0 _
  have hsz : (DataW.weightsEach Try.prog (Try.f3.params.toList ++ Rows.frameMatchesReferenceSpec.plain.varTypes Try.prog) (ds ++ gs)).all (· ≤ reachBytes) = true := hsz0
  have hval : ∀ (j : Nat) t v, Try.f3.params[j]? = some t → args[j]? = some v → Value.okWide Try.prog W .any base t v := hval0
  have hW' := hW
  obtain ⟨p, q, hA0, hV, rfl, hfz, hnd⟩ := hW
  have hA : DataW.TrodAll enc Try.prog W 0 (fun _ => true) true Try.f3.params.toList args.toList ds p := hA0
  rw [Try.params3] at hA hval hsz
  obtain ⟨v0, vs0, d0, ds0, p0, q0, hargs, rfl, rfl, h0, r0⟩ := trodAll_cons hA
  obtain ⟨v1, vs1, d1, ds1, p1, q1, rfl, rfl, rfl, h1, r1⟩ := trodAll_cons r0
  obtain ⟨v2, vs2, d2, ds2, p2, q2, rfl, rfl, rfl, h2, r2⟩ := trodAll_cons r1
  obtain ⟨rfl, rfl, rfl⟩ := trodAll_nil r2
  obtain rfl : args = #[v0, v1, v2] := by cases args; simp_all
  obtain ⟨rfl, rfl⟩ := trodVars_none hV
  have hwt : ∀ (j : Nat) t d, ([22, 23, 24] ++ Rows.frameMatchesReferenceSpec.plain.varTypes Try.prog : List TypeId)[j]? = some t → ([d0, d1, d2] ++ [] : List (DataW H))[j]? = some d → ∀ x ∈ d.weights Try.prog t, x ≤ 140737488351232 := fun j t d ht hd x hx => by
    have := List.all_eq_true.1 hsz _ (DataW.weights_mem_each ht hd x hx)
    exact (of_decide_eq_true this : x ≤ reachBytes)
  have k0 := h0
  have lt0 : ∀ x ∈ p0, x.block < W.heap.size := by obtain ⟨m, hm⟩ := k0; exact DataW.trod_lt m _ _ _ hm
  obtain ⟨a0, len0, cap0, rfl⟩ := okWide_slice Try.underlying22 (hval 0 22 v0 rfl rfl)
  obtain ⟨fu0, hf0⟩ := h0
  simp only [Value.cells] at hf0
  obtain ⟨A0, l0, c0, e0, hC0, hc0, hm0, hw0, hs0⟩ := RowS.ints_of Try.underlying22 Try.underlying5 (by kernel_rfl) hf0
  obtain ⟨rfl, rfl, rfl⟩ := Value.slice.inj e0
  have hs0 := hs0 140737488351232 (hwt 0 22 d0 rfl rfl)
  rw [show Try.prog.bytesOf 5 = 1 by kernel_rfl] at hs0
  have k1 := h1
  have lt1 : ∀ x ∈ p1, x.block < W.heap.size := by obtain ⟨m, hm⟩ := k1; exact DataW.trod_lt m _ _ _ hm
  obtain ⟨a1, len1, cap1, rfl⟩ := okWide_slice Try.underlying23 (hval 1 23 v1 rfl rfl)
  obtain ⟨fu1, hf1⟩ := h1
  simp only [Value.cells] at hf1
  obtain ⟨A1, l1, c1, e1, hC1, hc1, hm1, hw1, hs1⟩ := RowS.rows_of Try.underlying23 Try.underlying41 Try.underlying43 (by kernel_rfl) (by kernel_rfl) hf1
  obtain ⟨rfl, rfl, rfl⟩ := Value.slice.inj e1
  have hs1 := hs1 140737488351232 (hwt 1 23 d1 rfl rfl)
  rw [show Try.prog.bytesOf 43 = 8 by kernel_rfl] at hs1
  rw [show Try.prog.bytesOf 41 = 24 by kernel_rfl] at hs1
  obtain ⟨a2, rfl, rfl, rfl, w2⟩ := open_int Try.underlying24 (hval 2 24 v2 rfl rfl) h2
  clear hA0 hval0 hsz0 hsz
  obtain ⟨kk, hk⟩ := Pure.FrameMatchesReference l0 hs0 hw0 l1 hs1 hw1 a2 w2
  refine (PFrameMatchesReference.capnplaw04_FrameMatchesReference.calls kk _ _ l0 _ _ l1 a2 true W hC0 hc0 hC1 hc1 hk).mono fun e W' ⟨he, bel⟩ => ?_
  subst he
  exact ⟨_, rfl, _, _, _, [], _, [], hW', trodAll_mk1 (shut_bool Try.underlying4 _), (trodAll_cons_mk (Below.trod laidOut (by kernel_rfl) (of_decide_eq_true (by kernel_rfl)) k0 bel lt0) (trodAll_cons_mk (Below.trod laidOut (by kernel_rfl) (of_decide_eq_true (by kernel_rfl)) k1 bel lt1) (trodAll_cons_mk (shut_int Try.underlying24 w2) trodAll_mk0))), rfl, bel.frame _, fun h => by cases h⟩
theorem over : Rows.frameMatchesReferenceRow.holds Try.pinned (OpenSpec.ofChange Rows.frameMatchesReferenceSpec) :=
  OpenClaim.holds_of_wide 3 Try.f3 rfl rfl rfl rfl rfl rfl rfl ⟨rfl, rfl, rfl, rfl, rfl⟩ rfl rfl rfl rfl rfl (by kernel_rfl) Try.func3 (by kernel_rfl)
    (of_decide_eq_true (by kernel_rfl)) (by unfold Func.isWrapper; first | (rw [if_pos (by decide +kernel)]; kernel_rfl) | (rw [if_neg (by decide +kernel)]; exact ⟨rfl, rfl⟩))
    (fun os started H enc _ => lifted os started H enc)
theorem proved : Rows.FrameMatchesReferenceSaid := over
#print axioms proved
end Go.Proofs.Ytcdkgccmmfjnhaa.frameMatchesReference
namespace Go.Proofs.Ytcdkgccmmfjnhaa
/-- The row, under a short name, for the claim. -/
theorem frameMatchesReference_holds : Rows.FrameMatchesReferenceSaid := frameMatchesReference.proved
end Go.Proofs.Ytcdkgccmmfjnhaa
