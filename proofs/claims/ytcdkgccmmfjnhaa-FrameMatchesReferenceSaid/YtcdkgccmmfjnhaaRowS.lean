/- What the arguments of a row read as, beyond slices of whole numbers: slices of slices of whole numbers; structs by value, field by field. -/
import Derived.Test.YtcdkgccmmfjnhaaWWords
import Derived.Deep.Matrix
import Derived.SizedLaws
import Derived.ChangeArms
import Derived.WideShapes
namespace Go.Proofs.Ytcdkgccmmfjnhaa.RowS
open Go Go.RowKit Go.ChangeShapes Go.WideShapes Go.Deep Go.Proofs.YtcdkgccmmfjnhaaW.PrintWords
set_option linter.unusedVariables false
set_option linter.unusedSimpArgs false
section
variable {H : Type} {enc : TypeId × Value → H} {P : Program} {W : World}

theorem row_reads {k : IntKind} {a : Addr} {len : Nat} {zs : List Int} (hl : len ≤ zs.length) (hm : len ≤ maxLen) (hcell : ∀ i, i < zs.length → W.cell? (a.add i) = some (.int k (zs.getD i 0))) : Kd.C (Kd.int k) W (some a) len (zs.take len) := by
  refine ⟨by rw [List.length_take]; omega, by unfold maxLen at hm; omega, fun _ => ⟨a, rfl, fun j p hj => ⟨[.int k p], rfl, rfl, fun i u hu => ?_⟩⟩⟩
  have hj1 : j < (zs.take len).length := (List.getElem?_eq_some_iff.1 hj).1
  rw [List.length_take] at hj1
  cases i with
  | succ i => simp at hu
  | zero =>
    simp at hu
    subst hu
    have := hcell j (by omega)
    rw [List.getElem?_take, if_pos (by omega)] at hj
    simp only [List.getD_eq_getElem?_getD, hj, Option.getD_some] at this
    have hs : (Kd.int k).sz = 1 := rfl
    simpa [hs] using this
/-- A slice of whole numbers, read from its cell. -/
theorem ints_of {t e : TypeId} {k : IntKind} {n : Nat} {v : Value} {y : DataW H × List MemPlace} (hu : P.underlying t = some (.slice e)) (he : P.underlying e = some (.int k)) (hc : P.cellsOf e = 1)
    (h : DataW.trod enc P W 0 (fun _ => true) true n t [v] = some y) :
    ∃ (A : Option Addr) (l : List Int) (cap : Nat), v = .slice A l.length cap ∧ Kd.C (Kd.int k) W A l.length l ∧ l.length ≤ cap ∧ l.length ≤ maxLen ∧ (∀ x ∈ l, (Lit.int k x).wf = true) ∧ ∀ B, (∀ m ∈ y.1.weights P t, m ≤ B) → l.length * P.bytesOf e ≤ B := by
  rcases open_ints hu he hc h with ⟨hcs, hy⟩ | ⟨a, len, cap, zs, hcs, _, hl, hm, hz, hy, hcell, hwz⟩
  · obtain rfl : v = .slice none 0 0 := by simpa using hcs
    exact ⟨none, [], 0, rfl, Kd.C_nil _ _, Nat.le_refl _, Nat.zero_le _, by simp, fun B _ => by simp⟩
  · obtain rfl : v = .slice (some a) len cap := by simpa using hcs
    simp only [if_true] at hz
    have e1 : (zs.take len).length = len := by rw [List.length_take]; omega
    refine ⟨some a, zs.take len, cap, by rw [e1], by rw [e1]; exact row_reads (by omega) (by omega) hcell, by omega, by omega, fun x hx => hwz x (List.mem_of_mem_take hx), fun B hB => ?_⟩
    have := hB ((len + (cap - len)) * P.bytesOf e) (by rw [hy]; simp only [DataW.weights, hu, lits, List.length_map, List.length_take, List.length_drop]; rw [show min len zs.length = len by omega, show zs.length - len = cap - len by omega]; exact List.mem_cons_self)
    rw [e1]
    exact Nat.le_trans (Nat.mul_le_mul_right _ (by omega)) this
theorem weightsAll_mem {e : TypeId} : ∀ {ds : List (DataW H)} {d : DataW H}, d ∈ ds → ∀ m ∈ d.weights P e, m ∈ DataW.weightsAll P e ds
  | d0 :: ds, d, hd, m, hm => by
    simp only [DataW.weightsAll, List.mem_append]
    rcases List.mem_cons.1 hd with rfl | h
    · exact Or.inl hm
    · exact Or.inr (weightsAll_mem h m hm)
  | [], _, hd, _, _ => by simp at hd
/-- A slice of slices of whole numbers. -/
theorem rows_of {t e q : TypeId} {k : IntKind} {fuel : Nat} {v : Value} {y : DataW H × List MemPlace} (ht : P.underlying t = some (.slice e)) (he : P.underlying e = some (.slice q)) (hq : P.underlying q = some (.int k)) (ce : P.cellsOf e = 1) (cq : P.cellsOf q = 1)
    (h : DataW.trod enc P W 0 (fun _ => true) true fuel t [v] = some y) :
    ∃ (A : Option Addr) (L : List (List Int)) (cap : Nat), v = .slice A L.length cap ∧ Kd.C (Kd.slice q (Kd.int k)) W A L.length L ∧ L.length ≤ cap ∧ L.length ≤ maxLen ∧ (∀ l ∈ L, l.length ≤ maxLen ∧ ∀ x ∈ l, (Lit.int k x).wf = true) ∧
      ∀ B, (∀ m ∈ y.1.weights P t, m ≤ B) → L.length * P.bytesOf e ≤ B ∧ ∀ l ∈ L, l.length * P.bytesOf q ≤ B := by
  rcases open_int_rows ht he hq ce cq h with ⟨hcs, hy⟩ | ⟨a, len, cap, A, LL, C, Z, hcs, _, hl, hm, hy, hr⟩
  · obtain rfl : v = .slice none 0 0 := by simpa using hcs
    exact ⟨none, [], 0, rfl, Kd.C_nil _ _, Nat.le_refl _, Nat.zero_le _, by simp, fun B _ => by simp⟩
  · obtain rfl : v = .slice (some a) len cap := by simpa using hcs
    have e1 : ((List.range len).map fun r => (Z r).take (LL r)).length = len := by simp
    refine ⟨some a, (List.range len).map fun r => (Z r).take (LL r), cap, by rw [e1], ?_, by omega, by omega, fun l hll => ?_, fun B hB => ⟨?_, fun l hll => ?_⟩⟩
    · rw [e1]
      refine ⟨e1, by unfold maxLen at hm; omega, fun _ => ⟨a, rfl, fun j p hj => ?_⟩⟩
      have hj1 : j < len := by have := (List.getElem?_eq_some_iff.1 hj).1; rwa [e1] at this
      obtain ⟨hc, hL, hC, hZ, hwz, hnone, hsome⟩ := hr j (by omega)
      rw [List.getElem?_map, List.getElem?_range hj1] at hj
      simp only [Option.map_some, Option.some.injEq] at hj
      subst hj
      have e2 : ((Z j).take (LL j)).length = LL j := by rw [List.length_take]; omega
      refine ⟨[.slice (A j) (LL j) (C j)], rfl, ⟨A j, C j, by rw [e2], by rw [e2]; exact hL, ?_⟩, fun i u hu => ?_⟩
      · rw [e2]
        cases hA : A j with
        | none =>
          have h0 := hnone hA
          have h1 : LL j = 0 := by omega
          rw [h1, List.take_zero]
          exact Kd.C_nil _ _
        | some a' =>
          have := (hsome a' hA).2
          exact row_reads (by omega) (by omega) (fun i hi => this i (by omega))
      · cases i with
        | succ i => simp at hu
        | zero =>
          simp at hu
          subst hu
          have hs : (Kd.slice q (Kd.int k)).sz = 1 := rfl
          simpa [hs] using hc
    · obtain ⟨r, hr1, rfl⟩ := List.mem_map.1 hll
      obtain ⟨_, hL, hC, hZ, hwz, _, _⟩ := hr r (by have := List.mem_range.1 hr1; omega)
      exact ⟨by rw [List.length_take]; omega, fun x hx => hwz x (List.mem_of_mem_take hx)⟩
    · have := hB ((len + (cap - len)) * P.bytesOf e) (by rw [hy]; simp only [DataW.weights, ht, List.length_map, List.length_range]; exact List.mem_cons_self)
      rw [e1]
      exact Nat.le_trans (Nat.mul_le_mul_right _ (by omega)) this
    · obtain ⟨r, hr1, rfl⟩ := List.mem_map.1 hll
      have hr2 := List.mem_range.1 hr1
      obtain ⟨_, hL, hC, hZ, hwz, hnone, hsome⟩ := hr r (by omega)
      have e2 : ((Z r).take (LL r)).length = LL r := by rw [List.length_take]; omega
      rw [e2]
      cases hA : A r with
      | none =>
        have h0 := hnone hA
        have h1 : LL r = 0 := by omega
        rw [h1]; simp
      | some a' =>
        have hin : (C r) * P.bytesOf q ∈ (intRow (H := H) k (A r) (LL r) (Z r)).weights P e := by
          rw [hA]
          simp only [intRow, DataW.weights, he, lits, List.length_map, List.length_take, List.length_drop]
          rw [show min (LL r) (Z r).length + ((Z r).length - LL r) = C r by omega]
          exact List.mem_cons_self
        have hmem : intRow (H := H) k (A r) (LL r) (Z r) ∈ (List.range len).map fun r => intRow (H := H) k (A r) (LL r) (Z r) := List.mem_map.2 ⟨r, hr1, rfl⟩
        have := hB ((C r) * P.bytesOf q) (by rw [hy]; simp only [DataW.weights, ht]; exact List.mem_cons_of_mem _ (List.mem_append.2 (Or.inl (weightsAll_mem hmem _ hin))))
        exact Nat.le_trans (Nat.mul_le_mul_right _ hL) this
/-- A struct by value: its fields' readings. -/
theorem fields_of {t : TypeId} {fs : Array Field} {v : Value} {d : DataW H} {ps : List MemPlace} {r : Reach} {b0 : Nat} (ht : P.underlying t = some (.struct fs)) (hv : Value.okWide P W r b0 t v) (h : DataW.Trod enc P W 0 (fun _ => true) true t v d ps) :
    ∃ (cs : Array Value) (xs : List (DataW H × List MemPlace)) (n : Nat), v = .agg cs ∧ cs.size = P.cellsOf t ∧ d = .agg (xs.map (·.1)) ∧ xs.length = fs.size ∧ ∀ (i : Nat) (f : Field), fs[i]? = some f → DataW.trod enc P W 0 (fun _ => true) true n f.type ((cs.toList.drop f.offset).take (P.cellsOf f.type)) = xs[i]? := by
  obtain ⟨cs, rfl, hsz⟩ := okWide_struct ht hv
  obtain ⟨fuel, hf⟩ := h
  obtain ⟨xs, n, _, hx, _, hlen, hr⟩ := DataW.trod_struct ht hf
  simp only [Prod.mk.injEq] at hx
  refine ⟨cs, xs, n, rfl, hsz, hx.1, hlen, fun i f hi => ?_⟩
  have := hr i f hi
  simpa [Value.cells] using this
theorem weightsEach_mem {ts : List TypeId} {ds : List (DataW H)} {i : Nat} {t : TypeId} {d : DataW H} (ht : ts[i]? = some t) (hd : ds[i]? = some d) {B : Nat} (hB : ∀ m ∈ DataW.weightsEach P ts ds, m ≤ B) : ∀ m ∈ d.weights P t, m ≤ B := fun m hm => hB m (DataW.weights_mem_each ht hd m hm)
theorem trod_len {n : Nat} {t : TypeId} {v : Value} {d : DataW H} {ps : List MemPlace} (h : DataW.trod enc P W 0 (fun _ => true) true n t v.cells.toList = some (d, ps)) : DataW.Trod enc P W 0 (fun _ => true) true t v d ps := ⟨n, h⟩
theorem arr3 {cs : Array Value} (h : cs.size = 3) : ∃ c0 c1 c2, cs = #[c0, c1, c2] := by
  obtain ⟨l⟩ := cs
  match l, h with
  | [c0, c1, c2], _ => exact ⟨c0, c1, c2, rfl⟩
theorem arr6 {cs : Array Value} (h : cs.size = 6) : ∃ c0 c1 c2 c3 c4 c5, cs = #[c0, c1, c2, c3, c4, c5] := by
  obtain ⟨l⟩ := cs
  match l, h with
  | [c0, c1, c2, c3, c4, c5], _ => exact ⟨c0, c1, c2, c3, c4, c5, rfl⟩
theorem list3 {α : Type} {l : List α} (h : l.length = 3) : ∃ y0 y1 y2, l = [y0, y1, y2] := by
  match l, h with
  | [y0, y1, y2], _ => exact ⟨y0, y1, y2, rfl⟩
theorem list6 {α : Type} {l : List α} (h : l.length = 6) : ∃ y0 y1 y2 y3 y4 y5, l = [y0, y1, y2, y3, y4, y5] := by
  match l, h with
  | [y0, y1, y2, y3, y4, y5], _ => exact ⟨y0, y1, y2, y3, y4, y5, rfl⟩
end
end Go.Proofs.Ytcdkgccmmfjnhaa.RowS
