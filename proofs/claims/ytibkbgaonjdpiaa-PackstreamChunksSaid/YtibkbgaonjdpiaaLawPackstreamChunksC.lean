/- The row of the law PackstreamChunks: its arguments read as plain data; the printed walk, and the pure statement behind it. -/
import Derived.SizedLaws
import Derived.ChangeSlices
import Derived.Test.YtibkbgaonjdpiaaRows
import Derived.Test.YtibkbgaonjdpiaaPPackstreamChunksx7C
import Derived.Test.YtibkbgaonjdpiaaPurePackstreamChunksC
import Derived.Test.YtibkbgaonjdpiaaRowSC
import Derived.WalkKit
import Derived.ProofKit
import Derived.OpenShut
import Derived.ShutString
import Derived.ChangeOld
import Derived.Below
namespace Go.Proofs.Ytibkbgaonjdpiaa.packstreamChunks
open Go.ChangeShapes Go.WideShapes Go.ChangeAt Go.RowKit Go.Proofs.YtibkbgaonjdpiaaW.PrintWords
set_option linter.unusedVariables false
set_option linter.unusedSimpArgs false
theorem own : ownKnob Try.prog.godebug = none := by kernel_rfl
theorem laidOut : laidOutB Try.prog = true := by kernel_rfl
set_option maxRecDepth 100000 in
theorem lifted (os : Os) (started : os.Started) (H : Type) (enc : TypeId × Value → H) :
    ReturnsInHanded {} Try.checked os 4 .any (Rows.packstreamChunksSpec.pre6 enc Try.prog Try.f4 Rows.packstreamChunksRow.domain false) (Rows.packstreamChunksSpec.post enc Try.prog Try.f4 false true false false) := by
  refine returnsInHanded_of_change_sized (C := Try.checked) own started (by kernel_rfl) Try.func4
    (ChangeSpec.witness6 (enc := enc) (C := Try.checked) false ⟨#[], #[.slice none 0 0], []⟩ 8 (by kernel_rfl) (by kernel_rfl) (by kernel_rfl) (by kernel_rfl)) ?_
  intro W base args ds gs before hval0 hW hcnd hsz0 _
  have hsz : (DataW.weightsEach Try.prog (Try.f4.params.toList ++ Rows.packstreamChunksSpec.plain.varTypes Try.prog) (ds ++ gs)).all (· ≤ reachBytes) = true := hsz0
  have hval : ∀ (j : Nat) t v, Try.f4.params[j]? = some t → args[j]? = some v → Value.okWide Try.prog W .any base t v := hval0
  have hW' := hW
  obtain ⟨p, q, hA0, hV, rfl, hfz, hnd⟩ := hW
  have hA : DataW.TrodAll enc Try.prog W 0 (fun _ => true) true Try.f4.params.toList args.toList ds p := hA0
  rw [Try.params4] at hA hval hsz
  obtain ⟨v0, vs0, d0, ds0, p0, q0, hargs, rfl, rfl, h0, r0⟩ := trodAll_cons hA
  obtain ⟨rfl, rfl, rfl⟩ := trodAll_nil r0
  obtain rfl : args = #[v0] := by cases args; simp_all
  obtain ⟨rfl, rfl⟩ := trodVars_none hV
  have hwt : ∀ (j : Nat) t d, ([39] ++ Rows.packstreamChunksSpec.plain.varTypes Try.prog : List TypeId)[j]? = some t → ([d0] ++ [] : List (DataW H))[j]? = some d → ∀ x ∈ d.weights Try.prog t, x ≤ 140737488351232 := fun j t d ht hd x hx => by
    have := List.all_eq_true.1 hsz _ (DataW.weights_mem_each ht hd x hx)
    exact (of_decide_eq_true this : x ≤ reachBytes)
  have k0 := h0
  have lt0 : ∀ x ∈ p0, x.block < W.heap.size := by obtain ⟨m, hm⟩ := k0; exact DataW.trod_lt m _ _ _ hm
  obtain ⟨a0, len0, cap0, rfl⟩ := okWide_slice Try.underlying39 (hval 0 39 v0 rfl rfl)
  obtain ⟨fu0, hf0⟩ := h0
  simp only [Value.cells] at hf0
  obtain ⟨A0, l0, c0, e0, hC0, hc0, hm0, hw0, hs0⟩ := RowS.rows_of Try.underlying39 Try.underlying22 Try.underlying5 (by kernel_rfl) (by kernel_rfl) hf0
  obtain ⟨rfl, rfl, rfl⟩ := Value.slice.inj e0
  have hs0 := hs0 140737488351232 (hwt 0 39 d0 rfl rfl)
  rw [show Try.prog.bytesOf 5 = 1 by kernel_rfl] at hs0
  clear hA0 hval0 hsz0 hsz
  obtain ⟨kk, hk⟩ := Pure.PackstreamChunks l0 hs0.2 hw0
  refine (PPackstreamChunks.capnplaw24_PackstreamChunks.calls kk _ _ l0 true W hC0 hc0 hk).mono fun e W' ⟨he, bel⟩ => ?_
  subst he
  exact ⟨_, rfl, _, _, _, [], _, [], hW', trodAll_mk1 (shut_bool Try.underlying4 _), (trodAll_cons_mk (Below.trod laidOut (by kernel_rfl) (of_decide_eq_true (by kernel_rfl)) k0 bel lt0) trodAll_mk0), rfl, bel.frame _, fun h => by cases h⟩
theorem over : Rows.packstreamChunksRow.holds Try.pinned (OpenSpec.ofChange Rows.packstreamChunksSpec) :=
  OpenClaim.holds_of_wide 4 Try.f4 rfl rfl rfl rfl rfl rfl rfl ⟨rfl, rfl, rfl, rfl, rfl⟩ rfl rfl rfl rfl rfl (by kernel_rfl) Try.func4 (by kernel_rfl)
    (of_decide_eq_true (by kernel_rfl)) (by unfold Func.isWrapper; first | (rw [if_pos (by decide +kernel)]; kernel_rfl) | (rw [if_neg (by decide +kernel)]; exact ⟨rfl, rfl⟩))
    (fun os started H enc _ => lifted os started H enc)
theorem proved : Rows.PackstreamChunksSaid := over
#print axioms proved
end Go.Proofs.Ytibkbgaonjdpiaa.packstreamChunks
namespace Go.Proofs.Ytibkbgaonjdpiaa
theorem packstreamChunks_holds : Rows.PackstreamChunksSaid := packstreamChunks.proved
end Go.Proofs.Ytibkbgaonjdpiaa
