/- An api.Packer by value, as a row's argument. -/
import Derived.Test.YtibkbgaonjdpiaaRowSS
import Derived.Test.YtibkbgaonjdpiaaProg
import Derived.KernelRfl
namespace Go.Proofs.Ytibkbgaonjdpiaa.RowS
open Go Go.RowKit Go.ChangeShapes Go.WideShapes Go.Proofs.YtibkbgaonjdpiaaW.PrintWords
set_option linter.unusedVariables false
set_option linter.unusedSimpArgs false
theorem cP : Try.prog.cellsOf 24 = 3 := by kernel_rfl
theorem cPI : Try.prog.cellsOf 3 = 1 := by kernel_rfl
theorem cPB : Try.prog.cellsOf 5 = 1 := by kernel_rfl
theorem cPS : Try.prog.cellsOf 22 = 1 := by kernel_rfl
theorem bPB : Try.prog.bytesOf 5 = 1 := by kernel_rfl
theorem packer_of {H : Type} {enc : TypeId × Value → H} {W : World} {v : Value} {d : DataW H} {ps : List MemPlace} {r : Reach} {b0 : Nat} (hv : Value.okWide Try.prog W r b0 24 v) (h : DataW.Trod enc Try.prog W 0 (fun _ => true) true 24 v d ps) (hB : ∀ m ∈ d.weights Try.prog 24, m ≤ 140737488351232) :
    ∃ (A : Option Addr) (part : List Int) (c : Nat) (zero : Int) (B : Option Addr) (run : List Int) (e : Nat), v = .agg #[.slice A part.length c, .int .i64 zero, .slice B run.length e] ∧ Kd.C (Kd.int .u8) W A part.length part ∧ part.length ≤ c ∧ (∀ x ∈ part, (Lit.int .u8 x).wf = true) ∧ part.length ≤ 140737488351232 ∧
      Kd.C (Kd.int .u8) W B run.length run ∧ run.length ≤ e ∧ (∀ x ∈ run, (Lit.int .u8 x).wf = true) ∧ run.length ≤ 140737488351232 ∧ (Lit.int .i64 zero).wf = true := by
  obtain ⟨cs, xs, n, rfl, hsz, rfl, hlen, hr⟩ := fields_of Try.underlying24 hv h
  rw [cP] at hsz
  obtain ⟨c0, c1, c2, rfl⟩ := arr3 hsz
  obtain ⟨y0, y1, y2, rfl⟩ := list3 hlen
  have h0 := hr 0 _ rfl
  have h1 := hr 1 _ rfl
  have h2 := hr 2 _ rfl
  simp [cPI, cPB, cPS] at h0 h1 h2
  obtain ⟨zero, e1, z1, w1⟩ := DataW.trod_int Try.underlying3 h1
  obtain ⟨A, l, cap, e0, hC, hc, hm, hw, hs⟩ := ints_of Try.underlying22 Try.underlying5 cPB h0
  obtain ⟨A2, l2, cap2, e2, hC2, hc2, hm2, hw2, hs2⟩ := ints_of Try.underlying22 Try.underlying5 cPB h2
  have hwt : ∀ m ∈ y0.1.weights Try.prog 22, m ≤ 140737488351232 := fun m hm => hB m (by
    simp only [DataW.weights, Try.underlying24, List.map_cons, List.map_nil]
    exact DataW.weights_mem_each (j := 0) rfl rfl m hm)
  have hwt2 : ∀ m ∈ y2.1.weights Try.prog 22, m ≤ 140737488351232 := fun m hm => hB m (by
    simp only [DataW.weights, Try.underlying24, List.map_cons, List.map_nil]
    exact DataW.weights_mem_each (j := 2) rfl rfl m hm)
  have hlb := hs _ hwt
  rw [bPB] at hlb
  have hlb2 := hs2 _ hwt2
  rw [bPB] at hlb2
  simp only [List.cons.injEq, and_true] at e1
  subst e0 e1 e2
  exact ⟨A, l, cap, zero, A2, l2, cap2, rfl, hC, hc, hw, by omega, hC2, hc2, hw2, by omega, w1⟩
end Go.Proofs.Ytibkbgaonjdpiaa.RowS
