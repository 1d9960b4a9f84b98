/- What the listed table of steps gives the walks; the world that the door's own run leaves. -/
import Derived.Test.YtpffoecblcfndaaDoorRows
import Derived.Test.YtpffoecblcfndaaDoorRdr4R
import Derived.LaidMore
import Derived.LaidHandle
import Derived.ProofKit
import Derived.OpenShut
import Derived.Stop.Joined
namespace Go.Proofs.YtpffoecblcfndaaDoor.LaidIn
open Go Go.ChangeShapes Go.WideShapes Go.ChangeAt Go.RowKit
set_option linter.unusedVariables false
set_option linter.unusedSimpArgs false
def laid2 : List (String × DataW Unit) := [("capnp/unpackstream.steps", Rows.laid_capnp_unpackstream_steps)]
theorem gS : Tryd.prog.globalNamed "capnp/unpackstream.steps" = some 0 := by kernel_rfl
theorem tS : (Tryd.prog.globals[0]?).map (·.type) = some 51 := by kernel_rfl
theorem cA : Tryd.prog.cellsOf 51 = 5 := by kernel_rfl
theorem cF : Tryd.prog.cellsOf 50 = 1 := by kernel_rfl
theorem arr5 {P : Program} {w : World} {fuel t e : Nat} {cs : List Value} {d0 d1 d2 d3 d4 : DataW (List UInt8)} {p : List MemPlace} (ht : P.underlying t = some (.array 5 e)) (hc : P.cellsOf t = 5) (he : P.cellsOf e = 1)
    (h : DataW.trod (funcToken P) P w 0 (fun _ => true) true fuel t cs = some (.agg [d0, d1, d2, d3, d4], p)) :
    ∃ (v0 v1 v2 v3 v4 : Value) (n : Nat) (q0 q1 q2 q3 q4 : List MemPlace), cs = [v0, v1, v2, v3, v4] ∧ DataW.trod (funcToken P) P w 0 (fun _ => true) true n e [v0] = some (d0, q0) ∧ DataW.trod (funcToken P) P w 0 (fun _ => true) true n e [v1] = some (d1, q1) ∧ DataW.trod (funcToken P) P w 0 (fun _ => true) true n e [v2] = some (d2, q2) ∧ DataW.trod (funcToken P) P w 0 (fun _ => true) true n e [v3] = some (d3, q3) ∧ DataW.trod (funcToken P) P w 0 (fun _ => true) true n e [v4] = some (d4, q4) := by
  cases fuel with
  | zero => simp [DataW.trod] at h
  | succ n =>
    rw [DataW.trod_step] at h
    unfold DataW.trodStep at h
    simp only [ht, hc, he] at h
    by_cases hl : cs.length = 5
    · rw [if_pos hl] at h
      match cs, hl with
      | [v0, v1, v2, v3, v4], _ =>
        simp only [List.range, List.range.loop, List.mapM_cons, List.mapM_nil, Option.map_eq_some_iff, List.drop_zero, Nat.mul_one, List.drop_succ_cons, List.take_succ_cons, List.take_zero, Option.bind_eq_bind, Option.bind_eq_some_iff, Option.pure_def, Option.some.injEq, Prod.mk.injEq, DataW.agg.injEq] at h
        obtain ⟨ys, ⟨y0, h0, ys1, ⟨y1, h1, ys2, ⟨y2, h2, ys3, ⟨y3, h3, ys4, ⟨y4, h4, ys5, e5, e4⟩, e3⟩, e2⟩, e1⟩, e0⟩, hh, _⟩ := h
        subst e5 e4 e3 e2 e1 e0
        simp only [List.map_cons, List.map_nil, List.cons.injEq, and_true] at hh
        obtain ⟨a0, a1, a2, a3, a4⟩ := hh
        exact ⟨v0, v1, v2, v3, v4, n, y0.2, y1.2, y2.2, y3.2, y4.2, rfl, by rw [← a0]; exact h0, by rw [← a1]; exact h1, by rw [← a2]; exact h2, by rw [← a3]; exact h3, by rw [← a4]; exact h4⟩
    · rw [if_neg hl] at h; cases h
theorem of_laid {W : World} (h : laidMetH Tryd.prog laid2 W) : Us.StepsL W := by
  obtain ⟨g, t, cs, fuel, p, hg, ht, hv, hd⟩ := h.funcs (List.mem_singleton.2 rfl)
  obtain rfl := Option.some.inj (gS.symm.trans hg)
  obtain rfl := Option.some.inj (tS.symm.trans ht)
  obtain ⟨v0, v1, v2, v3, v4, n, q0, q1, q2, q3, q4, hcs, h0, h1, h2, h3, h4⟩ := arr5 (d0 := .held _) (d1 := .held _) (d2 := .held _) (d3 := .held _) (d4 := .held _) Tryd.underlying51 cA cF hd
  obtain rfl := func_of_trod (f0 := 50) Tryd.underlying50 (by kernel_rfl) h0
  obtain rfl := func_of_trod (f0 := 51) Tryd.underlying50 (by kernel_rfl) h1
  obtain rfl := func_of_trod (f0 := 52) Tryd.underlying50 (by kernel_rfl) h2
  obtain rfl := func_of_trod (f0 := 48) Tryd.underlying50 (by kernel_rfl) h3
  obtain rfl := func_of_trod (f0 := 53) Tryd.underlying50 (by kernel_rfl) h4
  have hc : ∀ j, cs[j]? = cs.toList[j]? := fun j => (Array.getElem?_toList).symm
  exact ⟨by have := World.var?_cell hg hv 0; rw [hc, hcs] at this; exact this, by have := World.var?_cell hg hv 1; rw [hc, hcs] at this; exact this, by have := World.var?_cell hg hv 2; rw [hc, hcs] at this; exact this, by have := World.var?_cell hg hv 3; rw [hc, hcs] at this; exact this, by have := World.var?_cell hg hv 4; rw [hc, hcs] at this; exact this⟩
theorem door_met (os : Os) (args : Array Value) : laidMetH Tryd.prog laid2 ((World.doorLaid Tryd.prog 600 os).forCall (fun _ _ => 0) ⟨#[], args, []⟩).memory :=
  laidMetH_of_parts3 (fuel := 8) (laidMet_of_run' 8 (by kernel_rfl) (by kernel_rfl)) (by kernel_rfl) (by kernel_rfl)
end Go.Proofs.YtpffoecblcfndaaDoor.LaidIn
