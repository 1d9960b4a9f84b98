/- What the arguments of a row read as, beyond slices of whole numbers: slices of slices of whole numbers; structs by value, field by field. -/
import Derived.Test.YtpffoecblcfndaaDoorWWordsR
import Derived.Deep.Matrix
import Derived.SizedLaws
import Derived.ChangeArms
import Derived.WideShapes
namespace Go.Proofs.YtpffoecblcfndaaDoor.RowS
open Go Go.RowKit Go.ChangeShapes Go.WideShapes Go.Deep Go.Proofs.YtpffoecblcfndaaDoorW.PrintWords
set_option linter.unusedVariables false
set_option linter.unusedSimpArgs false
section
variable {H : Type} {enc : TypeId × Value → H} {P : Program} {W : World}
theorem row_reads {k : IntKind} {a : Addr} {len : Nat} {zs : List Int} (hl : len ≤ zs.length) (hm : len ≤ maxLen) (hcell : ∀ i, i < zs.length → W.cell? (a.add i) = some (.int k (zs.getD i 0))) : Kd.C (Kd.int k) W (some a) len (zs.take len) := by
  refine ⟨by rw [List.length_take]; omega, by unfold maxLen at hm; omega, fun _ => ⟨a, rfl, fun j p hj => ⟨[.int k p], rfl, rfl, fun i u hu => ?_⟩⟩⟩
  have hj1 : j < (zs.take len).length := (List.getElem?_eq_some_iff.1 hj).1
  rw [List.length_take] at hj1
  cases i with
  | succ i => simp at hu
  | zero =>
    simp at hu
    subst hu
    have := hcell j (by omega)
    rw [List.getElem?_take, if_pos (by omega)] at hj
    simp only [List.getD_eq_getElem?_getD, hj, Option.getD_some] at this
    have hs : (Kd.int k).sz = 1 := rfl
    simpa [hs] using this
theorem ints_of {t e : TypeId} {k : IntKind} {n : Nat} {v : Value} {y : DataW H × List MemPlace} (hu : P.underlying t = some (.slice e)) (he : P.underlying e = some (.int k)) (hc : P.cellsOf e = 1)
    (h : DataW.trod enc P W 0 (fun _ => true) true n t [v] = some y) :
    ∃ (A : Option Addr) (l : List Int) (cap : Nat), v = .slice A l.length cap ∧ Kd.C (Kd.int k) W A l.length l ∧ l.length ≤ cap ∧ l.length ≤ maxLen ∧ (∀ x ∈ l, (Lit.int k x).wf = true) ∧ ∀ B, (∀ m ∈ y.1.weights P t, m ≤ B) → l.length * P.bytesOf e ≤ B := by
  rcases open_ints hu he hc h with ⟨hcs, hy⟩ | ⟨a, len, cap, zs, hcs, _, hl, hm, hz, hy, hcell, hwz⟩
  · obtain rfl : v = .slice none 0 0 := by simpa using hcs
    exact ⟨none, [], 0, rfl, Kd.C_nil _ _, Nat.le_refl _, Nat.zero_le _, by simp, fun B _ => by simp⟩
  · obtain rfl : v = .slice (some a) len cap := by simpa using hcs
    simp only [if_true] at hz
    have e1 : (zs.take len).length = len := by rw [List.length_take]; omega
    refine ⟨some a, zs.take len, cap, by rw [e1], by rw [e1]; exact row_reads (by omega) (by omega) hcell, by omega, by omega, fun x hx => hwz x (List.mem_of_mem_take hx), fun B hB => ?_⟩
    have := hB ((len + (cap - len)) * P.bytesOf e) (by rw [hy]; simp only [DataW.weights, hu, lits, List.length_map, List.length_take, List.length_drop]; rw [show min len zs.length = len by omega, show zs.length - len = cap - len by omega]; exact List.mem_cons_self)
    rw [e1]
    exact Nat.le_trans (Nat.mul_le_mul_right _ (by omega)) this
theorem fields_of {t : TypeId} {fs : Array Field} {v : Value} {d : DataW H} {ps : List MemPlace} {r : Reach} {b0 : Nat} (ht : P.underlying t = some (.struct fs)) (hv : Value.okWide P W r b0 t v) (h : DataW.Trod enc P W 0 (fun _ => true) true t v d ps) :
    ∃ (cs : Array Value) (xs : List (DataW H × List MemPlace)) (n : Nat), v = .agg cs ∧ cs.size = P.cellsOf t ∧ d = .agg (xs.map (·.1)) ∧ xs.length = fs.size ∧ ∀ (i : Nat) (f : Field), fs[i]? = some f → DataW.trod enc P W 0 (fun _ => true) true n f.type ((cs.toList.drop f.offset).take (P.cellsOf f.type)) = xs[i]? := by
  obtain ⟨cs, rfl, hsz⟩ := okWide_struct ht hv
  obtain ⟨fuel, hf⟩ := h
  obtain ⟨xs, n, _, hx, _, hlen, hr⟩ := DataW.trod_struct ht hf
  simp only [Prod.mk.injEq] at hx
  refine ⟨cs, xs, n, rfl, hsz, hx.1, hlen, fun i f hi => ?_⟩
  have := hr i f hi
  simpa [Value.cells] using this
theorem arr6 {cs : Array Value} (h : cs.size = 6) : ∃ c0 c1 c2 c3 c4 c5, cs = #[c0, c1, c2, c3, c4, c5] := by
  obtain ⟨l⟩ := cs
  match l, h with
  | [c0, c1, c2, c3, c4, c5], _ => exact ⟨c0, c1, c2, c3, c4, c5, rfl⟩
theorem list6 {α : Type} {l : List α} (h : l.length = 6) : ∃ y0 y1 y2 y3 y4 y5, l = [y0, y1, y2, y3, y4, y5] := by
  match l, h with
  | [y0, y1, y2, y3, y4, y5], _ => exact ⟨y0, y1, y2, y3, y4, y5, rfl⟩
end
end Go.Proofs.YtpffoecblcfndaaDoor.RowS
