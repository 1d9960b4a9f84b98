/- The row of the law UnpackstreamChunks: its arguments read as plain data; the printed walk, and the pure statement behind it. -/
import Derived.SizedLaws
import Derived.ChangeSlices
import Derived.Test.YtpffoecblcfndaaDoorRows
import Derived.Test.YtpffoecblcfndaaDoorLaidSC
import Derived.Test.YtpffoecblcfndaaDoorTie
import Derived.Test.YtpffoecblcfndaaDoorCards
import Derived.SevenTiedAt
import Derived.Test.YtpffoecblcfndaaDoorPUnpackstreamChunksx6C
import Derived.Test.YtpffoecblcfndaaDoorPureUnpackstreamChunksC
import Derived.Test.YtpffoecblcfndaaDoorRowSC
import Derived.WalkKit
import Derived.ProofKit
import Derived.OpenShut
import Derived.ShutString
import Derived.ChangeOld
import Derived.Below
namespace Go.Proofs.YtpffoecblcfndaaDoor.unpackstreamChunks
open Go.ChangeShapes Go.WideShapes Go.ChangeAt Go.RowKit Go.Proofs.YtpffoecblcfndaaDoorW.PrintWords
set_option linter.unusedVariables false
set_option linter.unusedSimpArgs false
theorem own : ownKnob Tryd.prog.godebug = none := by kernel_rfl
theorem laidOut : laidOutB Tryd.prog = true := by kernel_rfl
set_option maxRecDepth 100000 in
theorem lifted (os : Os) (started : os.Started) (H : Type) (enc : TypeId × Value → H) :
    ReturnsInHanded {} Tryd.checked os 4 .any (fun w args => (Rows.unpackstreamChunksSpec.pre enc Tryd.prog Tryd.f4 [] false w args ∧ laidMetH Tryd.prog LaidIn.laid2 w) ∧ sizedMet enc Tryd.prog Tryd.f4 (OpenSpec.ofChange Rows.unpackstreamChunksSpec) false w args) (Rows.unpackstreamChunksSpec.post enc Tryd.prog Tryd.f4 false true false false) := by
  refine returnsInHanded_of_change_and (C := Tryd.checked) (X := fun w _ => laidMetH Tryd.prog LaidIn.laid2 w) (fun _ _ _ hh h => h.of_heap hh) own started (by kernel_rfl) Tryd.func4
    (ChangeSpec.witness_shaped (enc := enc) (C := Tryd.checked) (os := os) (X := fun w _ => laidMetH Tryd.prog LaidIn.laid2 w) false (World.doorLaid Tryd.prog 600 os) #[.slice none 0 0, .int .i64 0] 8 rfl (World.shaped_of_RefB (by kernel_rfl) (by kernel_rfl)) (by kernel_rfl) (by kernel_rfl) (by kernel_rfl) (LaidIn.door_met os _)) ?_
  intro W base args ds gs before hval0 hW hcnd hsz0 hLd _
  have hL := LaidIn.of_laid hLd
  have hsz : (DataW.weightsEach Tryd.prog (Tryd.f4.params.toList ++ Rows.unpackstreamChunksSpec.plain.varTypes Tryd.prog) (ds ++ gs)).all (· ≤ reachBytes) = true := hsz0
  have hval : ∀ (j : Nat) t v, Tryd.f4.params[j]? = some t → args[j]? = some v → Value.okWide Tryd.prog W .any base t v := hval0
  have hW' := hW
  obtain ⟨p, q, hA0, hV, rfl, hfz, hnd⟩ := hW
  have hA : DataW.TrodAll enc Tryd.prog W 0 (fun _ => true) true Tryd.f4.params.toList args.toList ds p := hA0
  rw [Tryd.params4] at hA hval hsz
  obtain ⟨v0, vs0, d0, ds0, p0, q0, hargs, rfl, rfl, h0, r0⟩ := trodAll_cons hA
  obtain ⟨v1, vs1, d1, ds1, p1, q1, rfl, rfl, rfl, h1, r1⟩ := trodAll_cons r0
  obtain ⟨rfl, rfl, rfl⟩ := trodAll_nil r1
  obtain rfl : args = #[v0, v1] := by cases args; simp_all
  obtain ⟨rfl, rfl⟩ := trodVars_none hV
  have hwt : ∀ (j : Nat) t d, ([37, 3] ++ Rows.unpackstreamChunksSpec.plain.varTypes Tryd.prog : List TypeId)[j]? = some t → ([d0, d1] ++ [] : List (DataW H))[j]? = some d → ∀ x ∈ d.weights Tryd.prog t, x ≤ 140737488351232 := fun j t d ht hd x hx => by
    have := List.all_eq_true.1 hsz _ (DataW.weights_mem_each ht hd x hx)
    exact (of_decide_eq_true this : x ≤ reachBytes)
  have k0 := h0
  have lt0 : ∀ x ∈ p0, x.block < W.heap.size := by obtain ⟨m, hm⟩ := k0; exact DataW.trod_lt m _ _ _ hm
  obtain ⟨a0, len0, cap0, rfl⟩ := okWide_slice Tryd.underlying37 (hval 0 37 v0 rfl rfl)
  obtain ⟨fu0, hf0⟩ := h0
  simp only [Value.cells] at hf0
  obtain ⟨A0, l0, c0, e0, hC0, hc0, hm0, hw0, hs0⟩ := RowS.rows_of Tryd.underlying37 Tryd.underlying22 Tryd.underlying5 (by kernel_rfl) (by kernel_rfl) hf0
  obtain ⟨rfl, rfl, rfl⟩ := Value.slice.inj e0
  have hs0 := hs0 140737488351232 (hwt 0 37 d0 rfl rfl)
  rw [show Tryd.prog.bytesOf 5 = 1 by kernel_rfl] at hs0
  obtain ⟨a1, rfl, rfl, rfl, w1⟩ := open_int Tryd.underlying3 (hval 1 3 v1 rfl rfl) h1
  clear hA0 hval0 hsz0 hsz
  obtain ⟨kk, hk⟩ := Pure.UnpackstreamChunks l0 hs0.2 hw0 a1 w1
  refine (PUnpackstreamChunks.capnplaw25_UnpackstreamChunks.calls kk _ _ l0 a1 true W hC0 hc0 hk hL).mono fun e W' ⟨he, bel⟩ => ?_
  subst he
  exact ⟨_, rfl, _, _, _, [], _, [], hW', trodAll_mk1 (shut_bool Tryd.underlying4 _), (trodAll_cons_mk (Below.trod laidOut (by kernel_rfl) (of_decide_eq_true (by kernel_rfl)) k0 bel lt0) (trodAll_cons_mk (shut_int Tryd.underlying3 w1) trodAll_mk0)), rfl, bel.frame _, fun h => by cases h⟩
theorem over : Rows.unpackstreamChunksRow.holds Tryd.pinned (OpenSpec.ofChange Rows.unpackstreamChunksSpec) :=
  OpenClaim.holds_of_wide 4 Tryd.f4 rfl rfl rfl rfl rfl rfl rfl ⟨rfl, rfl, rfl, rfl, rfl⟩ rfl rfl rfl rfl rfl (by kernel_rfl) Tryd.func4 (by kernel_rfl)
    (of_decide_eq_true (by kernel_rfl)) (by unfold Func.isWrapper; first | (rw [if_pos (by decide +kernel)]; kernel_rfl) | (rw [if_neg (by decide +kernel)]; exact ⟨rfl, rfl⟩))
    (fun os started H enc _ => lifted os started H enc)
theorem proved : Rows.UnpackstreamChunksSaid := over
#print axioms proved
end Go.Proofs.YtpffoecblcfndaaDoor.unpackstreamChunks
namespace Go.Proofs.YtpffoecblcfndaaDoor
theorem unpackstreamChunks_holds : Rows.UnpackstreamChunksSaid := unpackstreamChunks.proved
theorem unpackstreamChunksCard_holds : Rows.UnpackstreamChunksCardSaid :=
  Claim7.holds_tied_plain_at .later [] [.funcs] true (true, "6906bc7ad894676a6c7827d5f8eb3f869a2939f50d658c6a229aa5d8ebe70a73") false
    unpackstreamChunks_holds (fun _ h => by cases h) (by kernel_rfl) (fun _ h => by cases h) unpackstreamChunks_row_tie rfl ⟨rfl, rfl⟩ (by kernel_rfl) rfl
    (fun f fn hf hfn => by
      obtain rfl : f = 4 := Option.some.inj ((show Tryd.prog.funcNamed "capnp/capnplaw25.UnpackstreamChunks" = some 4 by kernel_rfl).symm.trans hf) |>.symm
      obtain rfl : fn = Tryd.f4 := (Option.some.inj (Tryd.func4.symm.trans hfn)).symm
      exact ⟨by kernel_rfl, fun j t ht => by
        rw [Tryd.params4] at ht
        have hm : t ∈ [37, 3] := by simpa using Array.mem_of_getElem? ht
        have hall : ([37, 3].all fun u => !Tryd.prog.wantsStandIn u) = true := by kernel_rfl
        exact (show Tryd.prog.wantsStandIn t = false by simpa using List.all_eq_true.1 hall t hm)⟩)
    (by kernel_rfl)
end Go.Proofs.YtpffoecblcfndaaDoor
