/- The law of make([]T, 0, c): an empty row of the call's own, with room; conditions: c is not negative and its bytes are below 2^48. -/
import Derived.Test.YthghblmffdfbaaaGreatDoorWWordsH
import Derived.Test.YthghblmffdfbaaaGreatDoorWMoreH
import Derived.Laws.IdiomStrings
import Derived.Lib.SlBytesConst
namespace Go.Proofs.YthghblmffdfbaaaGreatDoorW.PrintWords.Kd
open Go.RowKit
set_option linter.unusedVariables false
section
variable {P : Program} {ops : Array Oper} {rest : List Oper} {o : Oper} {a : Act} {Q : Exit → Act → World → Prop} {Kc : Act → World → Prop}
variable {α : Type}
theorem own_empty (d : Kd α) {W : World} {base e c : Nat} {ok : Nat → Prop} {v : Value} (hok : ∀ k, v.ownBlock = some k → ok k) (h : W.ownsRow base e d.sz v 0 []) : d.R e W base ok v ([] : List α) :=
  ⟨hok, [], h, by refine ⟨by simp, fun j p hj => by simp at hj⟩⟩
theorem R_makecap (d : Kd α) {w0 W : World} (base e : Nat) (hgd : o.guard = none) {N : Tmp} (hd : o.dst = some N) (t : TypeId) (x y : Operand) (ho : o.op = .makeSlice t x y) (n : Int) (hx : a.eval x = .int .i64 0) (hy : a.eval y = .int .i64 n)
    (ht : P.underlying t = some (.slice e)) (z : Value) (bytes : Nat) (hinfo : (P.info? e).map (fun i => (i.zero, i.size, i.bytes)) = some (some z, d.sz, bytes)) (hz : z.cells.size = d.sz) (hs0 : 0 < d.sz) (hb0 : 0 < bytes)
    (z0 : α) {ok okp : Nat → Prop} (hzero : d.M W base okp z0 z.cells.toList) (hok : ∀ k, okp k → ok k) (hfresh : ok W.heap.size) (h0 : 0 ≤ n) (hl : n.toNat * bytes ≤ 281474976710656) (HB : Below base w0 W) (hbase : base ≤ W.heap.size)
    (h : ∀ v1 w1, d.R e w1 base ok v1 ([] : List α) → Below base w0 w1 → W.grownBy w1 none → (∃ b, v1.ownBlock = some b ∧ W.heap.size ≤ b) → wpList P ops Q rest (a.put o.dst v1) w1) : wpList P ops Q (o :: rest) a W := by
  obtain ⟨m, rfl⟩ := Int.eq_ofNat_of_zero_le h0
  simp only [Int.toNat_natCast] at hl
  obtain ⟨i0, hi, hzz⟩ := Option.map_eq_some_iff.1 hinfo
  simp only [Prod.mk.injEq] at hzz
  obtain ⟨hz0, hz1, hz2⟩ := hzz
  have hm : m ≤ 281474976710656 := Nat.le_trans (Nat.le_mul_of_pos_right _ hb0) hl
  have h3 : ((i0.bytes * m : Nat) : Int) ≤ 281474976710656 := by rw [hz2, Nat.mul_comm]; omega
  have hr := run_make (P := P) W t e i0 z ht hi hz0 .i64 .i64 0 (m : Int) (by omega) (by omega) (by rwa [Int.natCast_mul] at h3) (by omega)
  simp only [Int.toNat_natCast, Int.toNat_zero] at hr
  have hrun : (execOp a.eval o).run P W = .ok (.value (.slice (some ⟨W.heap.size, 0, none⟩) 0 m)) (W.alloc (.cells (madeCells z.cells (m * i0.size)) e)) := by simp [execOp, ho, hx, hy, hr]
  refine event_run hgd hrun (h _ _ (own_empty (c := 0) d (fun k hk => ?_) ?_) (HB.alloc hbase _) (World.grownBy_alloc W _ none) ⟨W.heap.size, by simp [Value.ownBlock], Nat.le_refl _⟩)
  · have : W.heap.size = k := by simpa [Value.ownBlock] using hk
    subst this
    exact hfresh
  · have hz3 := hz1
    rw [← hz1]
    exact World.ownsRow_made W _ m hbase (by unfold maxLen; omega) (size_madeCells _ _)
end
end Go.Proofs.YthghblmffdfbaaaGreatDoorW.PrintWords.Kd
namespace Go.Proofs.YthghblmffdfbaaaGreatDoorW.PrintWords.Kd
open Go.RowKit
set_option linter.unusedVariables false
end Go.Proofs.YthghblmffdfbaaaGreatDoorW.PrintWords.Kd
