/- The row of the law UnpackstreamMatchesReference: its arguments read as plain data; the printed walk, and the pure statement behind it. -/
import Derived.SizedLaws
import Derived.ChangeSlices
import Derived.Test.YtpffoecblcfndaaDoorRows
import Derived.Test.YtpffoecblcfndaaDoorLaidSR
import Derived.Test.YtpffoecblcfndaaDoorTie
import Derived.Test.YtpffoecblcfndaaDoorCards
import Derived.SevenTiedAt
import Derived.Test.YtpffoecblcfndaaDoorPUnpackstreamMatchesReferencex8R
import Derived.Test.YtpffoecblcfndaaDoorPureUnpackstreamMatchesReferenceR
import Derived.Test.YtpffoecblcfndaaDoorRowUR
import Derived.WalkKit
import Derived.ProofKit
import Derived.OpenShut
import Derived.ShutString
import Derived.ChangeOld
import Derived.Below
namespace Go.Proofs.YtpffoecblcfndaaDoor.unpackstreamMatchesReference
open Go.ChangeShapes Go.WideShapes Go.ChangeAt Go.RowKit Go.Proofs.YtpffoecblcfndaaDoorW.PrintWords
set_option linter.unusedVariables false
set_option linter.unusedSimpArgs false
theorem own : ownKnob Tryd.prog.godebug = none := by kernel_rfl
theorem laidOut : laidOutB Tryd.prog = true := by kernel_rfl
set_option maxRecDepth 100000 in
theorem lifted (os : Os) (started : os.Started) (H : Type) (enc : TypeId × Value → H) :
    ReturnsInHanded {} Tryd.checked os 3 .any (fun w args => (Rows.unpackstreamMatchesReferenceSpec.pre enc Tryd.prog Tryd.f3 [] false w args ∧ laidMetH Tryd.prog LaidIn.laid2 w) ∧ sizedMet enc Tryd.prog Tryd.f3 (OpenSpec.ofChange Rows.unpackstreamMatchesReferenceSpec) false w args) (Rows.unpackstreamMatchesReferenceSpec.post enc Tryd.prog Tryd.f3 false true false false) := by
  refine returnsInHanded_of_change_and (C := Tryd.checked) (X := fun w _ => laidMetH Tryd.prog LaidIn.laid2 w) (fun _ _ _ hh h => h.of_heap hh) own started (by kernel_rfl) Tryd.func3
    (ChangeSpec.witness_shaped (enc := enc) (C := Tryd.checked) (os := os) (X := fun w _ => laidMetH Tryd.prog LaidIn.laid2 w) false (World.doorLaid Tryd.prog 600 os) #[.agg #[.int .i64 0, .int .u8 0, .slice none 0 0, .int .i64 0, .int .i64 0, .int .i64 0], .slice none 0 0, .int .i64 0] 8 rfl (World.shaped_of_RefB (by kernel_rfl) (by kernel_rfl)) (by kernel_rfl) (by kernel_rfl) (by kernel_rfl) (LaidIn.door_met os _)) ?_
  intro W base args ds gs before hval0 hW hcnd hsz0 hLd _
  have hL := LaidIn.of_laid hLd
  have hsz : (DataW.weightsEach Tryd.prog (Tryd.f3.params.toList ++ Rows.unpackstreamMatchesReferenceSpec.plain.varTypes Tryd.prog) (ds ++ gs)).all (· ≤ reachBytes) = true := hsz0
  have hval : ∀ (j : Nat) t v, Tryd.f3.params[j]? = some t → args[j]? = some v → Value.okWide Tryd.prog W .any base t v := hval0
  have hW' := hW
  obtain ⟨p, q, hA0, hV, rfl, hfz, hnd⟩ := hW
  have hA : DataW.TrodAll enc Tryd.prog W 0 (fun _ => true) true Tryd.f3.params.toList args.toList ds p := hA0
  rw [Tryd.params3] at hA hval hsz
  obtain ⟨v0, vs0, d0, ds0, p0, q0, hargs, rfl, rfl, h0, r0⟩ := trodAll_cons hA
  obtain ⟨v1, vs1, d1, ds1, p1, q1, rfl, rfl, rfl, h1, r1⟩ := trodAll_cons r0
  obtain ⟨v2, vs2, d2, ds2, p2, q2, rfl, rfl, rfl, h2, r2⟩ := trodAll_cons r1
  obtain ⟨rfl, rfl, rfl⟩ := trodAll_nil r2
  obtain rfl : args = #[v0, v1, v2] := by cases args; simp_all
  obtain ⟨rfl, rfl⟩ := trodVars_none hV
  have hwt : ∀ (j : Nat) t d, ([25, 22, 3] ++ Rows.unpackstreamMatchesReferenceSpec.plain.varTypes Tryd.prog : List TypeId)[j]? = some t → ([d0, d1, d2] ++ [] : List (DataW H))[j]? = some d → ∀ x ∈ d.weights Tryd.prog t, x ≤ 140737488351232 := fun j t d ht hd x hx => by
    have := List.all_eq_true.1 hsz _ (DataW.weights_mem_each ht hd x hx)
    exact (of_decide_eq_true this : x ≤ reachBytes)
  have k0 := h0
  have lt0 : ∀ x ∈ p0, x.block < W.heap.size := by obtain ⟨m, hm⟩ := k0; exact DataW.trod_lt m _ _ _ hm
  obtain ⟨s0_0, s0_1, A0, l0, c0, s0_3, s0_4, s0_5, rfl, hC0, hc0, hw0, hs0, z0_0, z0_1, z0_3, z0_4, z0_5⟩ := RowS.unpacker_of (hval 0 25 v0 rfl rfl) h0 (hwt 0 25 d0 rfl rfl)
  have k1 := h1
  have lt1 : ∀ x ∈ p1, x.block < W.heap.size := by obtain ⟨m, hm⟩ := k1; exact DataW.trod_lt m _ _ _ hm
  obtain ⟨a1, len1, cap1, rfl⟩ := okWide_slice Tryd.underlying22 (hval 1 22 v1 rfl rfl)
  obtain ⟨fu1, hf1⟩ := h1
  simp only [Value.cells] at hf1
  obtain ⟨A1, l1, c1, e1, hC1, hc1, hm1, hw1, hs1⟩ := RowS.ints_of Tryd.underlying22 Tryd.underlying5 (by kernel_rfl) hf1
  obtain ⟨rfl, rfl, rfl⟩ := Value.slice.inj e1
  have hs1 := hs1 140737488351232 (hwt 1 22 d1 rfl rfl)
  rw [show Tryd.prog.bytesOf 5 = 1 by kernel_rfl] at hs1
  obtain ⟨a2, rfl, rfl, rfl, w2⟩ := open_int Tryd.underlying3 (hval 2 3 v2 rfl rfl) h2
  clear hA0 hval0 hsz0 hsz
  obtain ⟨kk, hk⟩ := Pure.UnpackstreamMatchesReference s0_0 s0_1 l0 s0_3 s0_4 s0_5 hw0 hs0 z0_0 z0_1 z0_3 z0_4 z0_5 l1 hs1 hw1 a2 w2
  refine (PUnpackstreamMatchesReference.capnplaw25_UnpackstreamMatchesReference.calls kk s0_0 s0_1 A0 c0 l0 s0_3 s0_4 s0_5 _ _ l1 a2 true W hC0 hc0 hC1 hc1 hk hL).mono fun e W' ⟨he, bel⟩ => ?_
  subst he
  exact ⟨_, rfl, _, _, _, [], _, [], hW', trodAll_mk1 (shut_bool Tryd.underlying4 _), (trodAll_cons_mk (Below.trod laidOut (by kernel_rfl) (of_decide_eq_true (by kernel_rfl)) k0 bel lt0) (trodAll_cons_mk (Below.trod laidOut (by kernel_rfl) (of_decide_eq_true (by kernel_rfl)) k1 bel lt1) (trodAll_cons_mk (shut_int Tryd.underlying3 w2) trodAll_mk0))), rfl, bel.frame _, fun h => by cases h⟩
theorem over : Rows.unpackstreamMatchesReferenceRow.holds Tryd.pinned (OpenSpec.ofChange Rows.unpackstreamMatchesReferenceSpec) :=
  OpenClaim.holds_of_wide 3 Tryd.f3 rfl rfl rfl rfl rfl rfl rfl ⟨rfl, rfl, rfl, rfl, rfl⟩ rfl rfl rfl rfl rfl (by kernel_rfl) Tryd.func3 (by kernel_rfl)
    (of_decide_eq_true (by kernel_rfl)) (by unfold Func.isWrapper; first | (rw [if_pos (by decide +kernel)]; kernel_rfl) | (rw [if_neg (by decide +kernel)]; exact ⟨rfl, rfl⟩))
    (fun os started H enc _ => lifted os started H enc)
theorem proved : Rows.UnpackstreamMatchesReferenceSaid := over
#print axioms proved
end Go.Proofs.YtpffoecblcfndaaDoor.unpackstreamMatchesReference
namespace Go.Proofs.YtpffoecblcfndaaDoor
theorem unpackstreamMatchesReference_holds : Rows.UnpackstreamMatchesReferenceSaid := unpackstreamMatchesReference.proved
theorem unpackstreamMatchesReferenceCard_holds : Rows.UnpackstreamMatchesReferenceCardSaid :=
  Claim7.holds_tied_plain_at .later [] [.funcs] true (true, "6906bc7ad894676a6c7827d5f8eb3f869a2939f50d658c6a229aa5d8ebe70a73") false
    unpackstreamMatchesReference_holds (fun _ h => by cases h) (by kernel_rfl) (fun _ h => by cases h) unpackstreamMatchesReference_row_tie rfl ⟨rfl, rfl⟩ (by kernel_rfl) rfl
    (fun f fn hf hfn => by
      obtain rfl : f = 3 := Option.some.inj ((show Tryd.prog.funcNamed "capnp/capnplaw25.UnpackstreamMatchesReference" = some 3 by kernel_rfl).symm.trans hf) |>.symm
      obtain rfl : fn = Tryd.f3 := (Option.some.inj (Tryd.func3.symm.trans hfn)).symm
      exact ⟨by kernel_rfl, fun j t ht => by
        rw [Tryd.params3] at ht
        have hm : t ∈ [25, 22, 3] := by simpa using Array.mem_of_getElem? ht
        have hall : ([25, 22, 3].all fun u => !Tryd.prog.wantsStandIn u) = true := by kernel_rfl
        exact (show Tryd.prog.wantsStandIn t = false by simpa using List.all_eq_true.1 hall t hm)⟩)
    (by kernel_rfl)
end Go.Proofs.YtpffoecblcfndaaDoor
