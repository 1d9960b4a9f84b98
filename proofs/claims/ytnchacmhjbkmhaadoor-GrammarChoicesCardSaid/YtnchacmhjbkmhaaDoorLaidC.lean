/- What the two listed sentinels give the walks; the world that the door's own run leaves. -/
import Derived.Test.YtnchacmhjbkmhaaDoorRows
import Derived.Test.YtnchacmhjbkmhaaDoorDec6C
import Derived.LaidMore
import Derived.LaidHandle
import Derived.Stop.LaidTwo
import Derived.ProofKit
import Derived.OpenShut
import Derived.MakeChecks
namespace Go.Proofs.YtnchacmhjbkmhaaDoor.LaidIn
open Go Go.ChangeShapes Go.WideShapes Go.ChangeAt Go.RowKit
def laid2 : List (String × DataW Unit) := [("capnp/unpack.errTruncated", Rows.laid_capnp_unpack_errTruncated), ("capnp/unpack.errLimit", Rows.laid_capnp_unpack_errLimit)]
theorem gT : Tryd.prog.globalNamed "capnp/unpack.errTruncated" = some 1 := by kernel_rfl
theorem gL : Tryd.prog.globalNamed "capnp/unpack.errLimit" = some 0 := by kernel_rfl
theorem tT : (Tryd.prog.globals[1]?).map (·.type) = some 71 := by kernel_rfl
theorem tL : (Tryd.prog.globals[0]?).map (·.type) = some 71 := by kernel_rfl
theorem cells102 : Tryd.prog.cellsOf 121 = 1 := by kernel_rfl
theorem cells9 : Tryd.prog.cellsOf 9 = 1 := by kernel_rfl
theorem star : "*" ++ "errors.errorString" = "*errors.errorString" := by decide
theorem row76 (u : TypeId) (h : Tryd.prog.typeName? 3 u = some "*errors.errorString") : u = 95 :=
  typeName_ptr_named (nm := "errors.errorString") (by rw [star]; kernel_rfl) (by kernel_rfl) (by decide) u (by rw [star]; exact h)
theorem of_laid {W : World} (h : laidMetH Tryd.prog laid2 W) : ∃ aL aT, Un.LaidU W aL aT := by
  rw [MakeChecks.laidMetH_plain _ _ _ (by kernel_rfl)] at h
  obtain ⟨a0, a1, s0, s1, c0, c1, t0, t1, hv0, hv1, hc0, hs0, hz0, hc1, hs1, hz1, hne, hb0, hb1⟩ := laid_sentinels2 h gT tT gL tL Tryd.underlying71 row76 Tryd.underlying95 Tryd.underlying121 rfl rfl Tryd.underlying9 cells102 cells9
  exact ⟨a1, a0, by simpa using World.var?_cell gL hv1 0, by simpa using World.var?_cell gT hv0 0, fun e => hne e.symm, ⟨c1, t1, hb1⟩, ⟨c0, t0, hb0⟩⟩
theorem door_met (os : Os) (args : Array Value) : laidMetH Tryd.prog laid2 ((World.doorLaid Tryd.prog 400 os).forCall (fun _ _ => 0) ⟨#[], args, []⟩).memory :=
  laidMetH_of_parts3 (fuel := 8) (laidMet_of_run' 8 (by kernel_rfl) (by kernel_rfl)) (by kernel_rfl) (by kernel_rfl)
end Go.Proofs.YtnchacmhjbkmhaaDoor.LaidIn
