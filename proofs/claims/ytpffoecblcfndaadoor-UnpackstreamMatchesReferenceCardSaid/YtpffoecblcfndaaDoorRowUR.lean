/- An api.Unpacker by value, as a row's argument. -/
import Derived.Test.YtpffoecblcfndaaDoorRowSR
import Derived.Test.YtpffoecblcfndaaDoorProg
import Derived.KernelRfl
namespace Go.Proofs.YtpffoecblcfndaaDoor.RowS
open Go Go.RowKit Go.ChangeShapes Go.WideShapes Go.Proofs.YtpffoecblcfndaaDoorW.PrintWords
set_option linter.unusedVariables false
set_option linter.unusedSimpArgs false
theorem cU : Tryd.prog.cellsOf 25 = 6 := by kernel_rfl
theorem cI : Tryd.prog.cellsOf 3 = 1 := by kernel_rfl
theorem cB : Tryd.prog.cellsOf 5 = 1 := by kernel_rfl
theorem cS : Tryd.prog.cellsOf 22 = 1 := by kernel_rfl
theorem cE : Tryd.prog.cellsOf 23 = 1 := by kernel_rfl
theorem bB : Tryd.prog.bytesOf 5 = 1 := by kernel_rfl
theorem unpacker_of {H : Type} {enc : TypeId × Value → H} {W : World} {v : Value} {d : DataW H} {ps : List MemPlace} {r : Reach} {b0 : Nat} (hv : Value.okWide Tryd.prog W r b0 25 v) (h : DataW.Trod enc Tryd.prog W 0 (fun _ => true) true 25 v d ps) (hB : ∀ m ∈ d.weights Tryd.prog 25, m ≤ 140737488351232) :
    ∃ (st tag : Int) (A : Option Addr) (word : List Int) (c : Nat) (left done err : Int), v = .agg #[.int .i64 st, .int .u8 tag, .slice A word.length c, .int .i64 left, .int .i64 done, .int .i64 err] ∧ Kd.C (Kd.int .u8) W A word.length word ∧ word.length ≤ c ∧ (∀ x ∈ word, (Lit.int .u8 x).wf = true) ∧ word.length ≤ 140737488351232 ∧
      (Lit.int .i64 st).wf = true ∧ (Lit.int .u8 tag).wf = true ∧ (Lit.int .i64 left).wf = true ∧ (Lit.int .i64 done).wf = true ∧ (Lit.int .i64 err).wf = true := by
  obtain ⟨cs, xs, n, rfl, hsz, rfl, hlen, hr⟩ := fields_of Tryd.underlying25 hv h
  rw [cU] at hsz
  obtain ⟨c0, c1, c2, c3, c4, c5, rfl⟩ := arr6 hsz
  obtain ⟨y0, y1, y2, y3, y4, y5, rfl⟩ := list6 hlen
  have h0 := hr 0 _ rfl
  have h1 := hr 1 _ rfl
  have h2 := hr 2 _ rfl
  have h3 := hr 3 _ rfl
  have h4 := hr 4 _ rfl
  have h5 := hr 5 _ rfl
  simp [cI, cB, cS, cE] at h0 h1 h2 h3 h4 h5
  obtain ⟨st, e0, z0, w0⟩ := DataW.trod_int Tryd.underlying3 h0
  obtain ⟨tag, e1, z1, w1⟩ := DataW.trod_int Tryd.underlying5 h1
  obtain ⟨left, e3, z3, w3⟩ := DataW.trod_int Tryd.underlying3 h3
  obtain ⟨done, e4, z4, w4⟩ := DataW.trod_int Tryd.underlying3 h4
  obtain ⟨err, e5, z5, w5⟩ := DataW.trod_int Tryd.underlying23 h5
  obtain ⟨A, l, cap, e2, hC, hc, hm, hw, hs⟩ := ints_of Tryd.underlying22 Tryd.underlying5 cB h2
  have hwt : ∀ m ∈ y2.1.weights Tryd.prog 22, m ≤ 140737488351232 := fun m hm => hB m (by
    simp only [DataW.weights, Tryd.underlying25, List.map_cons, List.map_nil]
    exact DataW.weights_mem_each (j := 2) rfl rfl m hm)
  have hlb := hs _ hwt
  rw [bB] at hlb
  simp only [List.cons.injEq, and_true] at e0 e1 e3 e4 e5
  subst e0 e1 e2 e3 e4 e5
  exact ⟨st, tag, A, l, cap, left, done, err, rfl, hC, hc, hw, by omega, w0, w1, w3, w4, w5⟩
end Go.Proofs.YtpffoecblcfndaaDoor.RowS
