/- What the five listed variables give the walks of the top; the world that the door's own run leaves. -/
import Derived.Test.YthghblmffdfbaaaGreatDoorRows
import Derived.Test.YthghblmffdfbaaaGreatDoorGlH
import Derived.LaidMore
import Derived.LaidHandle
import Derived.LaidSub
import Derived.Lib.LaidTab
import Derived.Lib.LaidU8
import Derived.Maps.Keyed
import Derived.WideKeyElems2
import Derived.Stop.LaidTwo
import Derived.ProofKit
import Derived.OpenShut
import Derived.Stop.Joined
import Derived.MakeChecks
namespace Go.Proofs.YthghblmffdfbaaaGreatDoor.LaidIn
open Go Go.ChangeShapes Go.WideShapes Go.ChangeAt Go.RowKit
set_option linter.unusedVariables false
set_option linter.unusedSimpArgs false
set_option maxRecDepth 100000
def laid5 : List (String × DataW Unit) := [("capnp/pointer.decoders", Rows.laid_capnp_pointer_decoders), ("errors.errorType", Rows.laid_errors_errorType), ("capnp/unpack.errTruncated", Rows.laid_capnp_unpack_errTruncated), ("capnp/unpack.errLimit", Rows.laid_capnp_unpack_errLimit), ("capnp/listsize.bits", Rows.laid_capnp_listsize_bits)]
def laid3 : List (String × DataW Unit) := [("capnp/unpack.errTruncated", Rows.laid_capnp_unpack_errTruncated), ("capnp/unpack.errLimit", Rows.laid_capnp_unpack_errLimit), ("capnp/listsize.bits", Rows.laid_capnp_listsize_bits)]
theorem plain3 : (laid5.filter fun x => x.2.handleName?.isNone) = laid3 := by rfl
theorem gD : Tryz.prog.globalNamed "capnp/pointer.decoders" = some 4 := by kernel_rfl
theorem gB : Tryz.prog.globalNamed "capnp/listsize.bits" = some 5 := by kernel_rfl
theorem gT : Tryz.prog.globalNamed "capnp/unpack.errTruncated" = some 2 := by kernel_rfl
theorem gL : Tryz.prog.globalNamed "capnp/unpack.errLimit" = some 1 := by kernel_rfl
theorem tD : (Tryz.prog.globals[4]?).map (·.type) = some 241 := by kernel_rfl
theorem tB : (Tryz.prog.globals[5]?).map (·.type) = some 278 := by kernel_rfl
theorem tT : (Tryz.prog.globals[2]?).map (·.type) = some 92 := by kernel_rfl
theorem tL : (Tryz.prog.globals[1]?).map (·.type) = some 92 := by kernel_rfl
theorem cellsS : Tryz.prog.cellsOf 311 = 1 := by kernel_rfl
theorem cellsStr : Tryz.prog.cellsOf 9 = 1 := by kernel_rfl
theorem star : "*" ++ "errors.errorString" = "*errors.errorString" := by decide
theorem rowS (u : TypeId) (h : Tryz.prog.typeName? 3 u = some "*errors.errorString") : u = 289 :=
  typeName_ptr_named (nm := "errors.errorString") (by rw [star]; kernel_rfl) (by kernel_rfl) (by decide) u (by rw [star]; exact h)
theorem un_of {W : World} (h : laidMet Tryz.prog laid3 W) : ∃ aL aT, Un.LaidU W aL aT := by
  obtain ⟨a0, a1, s0, s1, c0, c1, t0, t1, hv0, hv1, hc0, hs0, hz0, hc1, hs1, hz1, hne, hb0, hb1⟩ := laid_sentinels2 h gT tT gL tL Tryz.underlying92 rowS Tryz.underlying289 Tryz.underlying311 rfl rfl Tryz.underlying9 cellsS cellsStr
  exact ⟨a1, a0, by simpa using World.var?_cell gL hv1 0, by simpa using World.var?_cell gT hv0 0, fun e => hne e.symm, ⟨c1, t1, hb1⟩, ⟨c0, t0, hb0⟩⟩
theorem cA : Tryz.prog.cellsOf 278 = 8 := by kernel_rfl
theorem cI : Tryz.prog.cellsOf 3 = 1 := by kernel_rfl
theorem bits_of {W : World} (h : laidMet Tryz.prog laid3 W) : Gp.BitsG W := by
  obtain ⟨g, t, cs, fuel, p, hg, ht, hv, hd⟩ := Lib.laidMet.reads h (n := "capnp/listsize.bits") (d := Rows.laid_capnp_listsize_bits) (by simp [laid3])
  obtain rfl := Option.some.inj (gB.symm.trans hg)
  obtain rfl := Option.some.inj (tB.symm.trans ht)
  have hcs : cs.toList = Gp.bitsT.map fun z => Value.int .i64 z := Lib.cells_of_tab (k := .i64) (zs := Gp.bitsT) Tryz.underlying278 Tryz.underlying3 cI cA hd
  have hcell : ∀ j, W.cell? ⟨5, j, none⟩ = cs.toList[j]? := fun j => by
    have := World.var?_cell hg hv j
    rw [this, Array.getElem?_toList]
  refine ⟨World.block_lt_of_cell? W ⟨5, 0, none⟩ (by rw [hcell, hcs]; rfl), fun j hj => ?_⟩
  rw [hcell, hcs]
  have : j = 0 ∨ j = 1 ∨ j = 2 ∨ j = 3 ∨ j = 4 ∨ j = 5 ∨ j = 6 ∨ j = 7 := by omega
  rcases this with rfl | rfl | rfl | rfl | rfl | rfl | rfl | rfl <;> rfl
theorem zF (w : World) : (zeroValue 186).run Tryz.prog w = .ok .nilFunc w := by kernel_rfl
def decD : DataW (List UInt8) := .map [(.int .i64 0, .held [99, 97, 112, 110, 112, 47, 112, 111, 105, 110, 116, 101, 114, 46, 100, 101, 99, 111, 100, 101, 114, 115, 36, 49]), (.int .i64 1, .held [99, 97, 112, 110, 112, 47, 112, 111, 105, 110, 116, 101, 114, 46, 100, 101, 99, 111, 100, 101, 114, 115, 36, 50]), (.int .i64 2, .held [99, 97, 112, 110, 112, 47, 112, 111, 105, 110, 116, 101, 114, 46, 100, 101, 99, 111, 100, 101, 114, 115, 36, 51]), (.int .i64 3, .held [99, 97, 112, 110, 112, 47, 112, 111, 105, 110, 116, 101, 114, 46, 100, 101, 99, 111, 100, 101, 114, 115, 36, 52])]
theorem look_of {W : World} {b n : Nat} {es : Array MapEntry} {clock : Nat} (hb : W.heap[b]? = some (.map es clock)) (F : WideElems.Fit Tryz.prog 3 (WideElems.elemAt (funcToken Tryz.prog) Tryz.prog W 0 (fun _ => true) true n 186) es clock)
    (hm : DataW.map ((es.toList.map (WideElems.rg Tryz.prog 3 (WideElems.elemAt (funcToken Tryz.prog) Tryz.prog W 0 (fun _ => true) true n 186))).foldr DataW.insert []) = decD)
    (k : Int) (c0 : UInt8) (r : List UInt8) (f0 : FuncId) (hkey : keyOf Tryz.prog 3 (.int .i64 k) = some (.int .i64 k)) (hat : ∀ zd, decD.atKey (.int .i64 k) zd = .held (c0 :: r)) (hone : ((List.range Tryz.prog.funcs.size).filter fun f => (Tryz.prog.funcs[f]?).any (·.name.toUTF8.data.toList == c0 :: r)) = [f0])
    (w : World) (hw : Below W.heap.size W w) : (Instr.lookup 241 (.map (some b)) (.int .i64 k) false).run Tryz.prog w = .ok (.func (.func f0) #[] #[]) w := by
  have hlt : b < W.heap.size := (Array.getElem?_eq_some_iff.1 hb).1
  have hb' : w.heap[b]? = some (.map es clock) := (hw.block b hlt).trans hb
  rcases Maps.fit_look (w := w) false (Maps.int_keyed Tryz.underlying3) Tryz.underlying241 (zF w) hb' F hkey with ⟨_, _, hno⟩ | ⟨e0, y, _, _, hrun, hR, hy, _⟩
  · have h := hno .nil
    rw [hm, hat] at h
    cases h
  · have h := hy .nil
    rw [hm, hat] at h
    unfold WideElems.elemAt at hR
    split at hR
    · rename_i hf
      obtain ⟨y1, y2⟩ := y
      simp only at h
      subst h
      have hc : e0.val.cells.toList = [e0.val] := by
        cases he : e0.val with
        | agg cs => rw [he] at hf; simp [Value.formed, Tryz.underlying186] at hf
        | _ => rfl
      rw [hc] at hR
      have := func_of_trod (f0 := f0) Tryz.underlying186 hone hR
      rw [this] at hrun
      simpa using hrun
    · cases hR
theorem dec_of {W : World} (h : laidMetH Tryz.prog laid5 W) : ∃ bm, Gp.DecG W bm := by
  obtain ⟨g, t, cs, fuel, p, hg, ht, hv, hd⟩ := h.funcs (List.mem_cons_self ..)
  obtain rfl := Option.some.inj (gD.symm.trans hg)
  obtain rfl := Option.some.inj (tD.symm.trans ht)
  rcases WideElems.open_map Tryz.underlying241 hd with ⟨hcs, hx⟩ | ⟨b, es, clock, n, rfl, hcs, hb, _, F, hx⟩
  · have := congrArg Prod.fst hx; simp [DataW.funcsOut] at this
  · have hm := (congrArg Prod.fst hx).symm
    have hm' : _ = decD := hm.trans rfl
    have hc : W.cell? ⟨4, 0, none⟩ = some (.map (some b)) := by
      have := World.var?_cell hg hv 0
      rw [this, ← Array.getElem?_toList, hcs]; rfl
    exact ⟨b, World.block_lt_of_cell? W _ hc, hc, look_of hb F hm' 0 _ _ 247 (by kernel_rfl) (fun _ => rfl) (by kernel_rfl), look_of hb F hm' 1 _ _ 249 (by kernel_rfl) (fun _ => rfl) (by kernel_rfl), look_of hb F hm' 2 _ _ 250 (by kernel_rfl) (fun _ => rfl) (by kernel_rfl), look_of hb F hm' 3 _ _ 251 (by kernel_rfl) (fun _ => rfl) (by kernel_rfl)⟩
theorem of_laid {W : World} (h : laidMetH Tryz.prog laid5 W) : Gp.TopU W := by
  have h3 : laidMet Tryz.prog laid3 W := by
    have := (laidMetH_iff.1 h).1
    rwa [plain3] at this
  exact ⟨⟨dec_of h, bits_of h3⟩, un_of h3⟩
theorem door_met (os : Os) (args : Array Value) : laidMetH Tryz.prog laid5 ((World.doorLaid Tryz.prog 2000 os).forCall (fun _ _ => 0) ⟨#[], args, []⟩).memory :=
  laidMetH_of_parts3 (fuel := 8) (laidMet_of_run' 8 (by kernel_rfl) (by kernel_rfl)) (by kernel_rfl) (by kernel_rfl)
end Go.Proofs.YthghblmffdfbaaaGreatDoor.LaidIn
