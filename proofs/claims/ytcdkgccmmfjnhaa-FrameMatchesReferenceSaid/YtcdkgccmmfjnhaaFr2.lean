/- Package frame: the deferred closure of Parse. -/
import Derived.Test.YtcdkgccmmfjnhaaFr
namespace Go.Proofs.Ytcdkgccmmfjnhaa.Fm
open Go Go.RowKit Go.Proofs.Ytcdkgccmmfjnhaa Go.Proofs.Ytcdkgccmmfjnhaa.M Go.Proofs.Ytcdkgccmmfjnhaa.PFrBase Go.Proofs.Ytcdkgccmmfjnhaa.QFrBase Go.Proofs.YtcdkgccmmfjnhaaW.PrintWords Go.Proofs.YtcdkgccmmfjnhaaW.PrintLast Go.Proofs.YtcdkgccmmfjnhaaW.PrintMore
attribute [local go_sem] max2_int min2_int max_two min_two
set_option linter.unusedVariables false
set_option linter.unusedSimpArgs false
set_option maxHeartbeats 8000000
set_option maxRecDepth 100000
theorem catch_idle (p q : Addr) (w : World) :
    CallsD Try.prog 18 #[.pointer (some p), .pointer (some q)] .returning w fun e u' w' => e = .returned (.tuple #[]) ∧ u' = .returning ∧ w' = w := by
  refine callsD_of_wpS Try.func18 rfl fun c₀ cs hu => ?_
  apply wpS_seq
  apply wpS_region
  simp [wpOpsS, go_sem, recoverD, hu, Try.ntmps18, Exit.thenS]
  apply wpS_seq
  apply wpS_region
  simp [wpOpsS, go_sem, recoverD, hu, Try.ntmps18, Exit.thenS]
  refine wpS_cond (t := false) (by simp [Act.eval, Array.replicate]) ?_
  simp only [Bool.false_eq_true, if_false]
  refine wpS_of_wp (wp_skip ?_)
  cases c₀
  simp_all [bodyPostS, results, Try.results18]
theorem block_lt {w : World} {g : Nat} {o : Obj} (h : w.heap[g]? = some o) : g < w.heap.size := (Array.getElem?_eq_some_iff.mp h).1
theorem cell_of {w : World} {g : Nat} {x : Value} {t : TypeId} (h : w.heap[g]? = some (.cells #[x] t (0, 0))) : w.cell? ⟨g, 0, none⟩ = some x := by simp [World.cell?, h]
theorem froz_of {w : World} {g : Nat} {x : Value} {t : TypeId} (h : w.heap[g]? = some (.cells #[x] t (0, 0))) : w.frozen? ⟨g, 0, none⟩ = false := by simp [World.frozen?, h]
theorem alloc_of {w : World} {g : Nat} {o o' : Obj} (h : w.heap[g]? = some o) : (w.alloc o').heap[g]? = some o := by
  have := (below_alloc (Below.refl w.heap.size w) o').block g (block_lt h)
  rw [this]; exact h
theorem set_of {w : World} {g g' : Nat} {o : Obj} {x : Value} (h : w.heap[g]? = some o) (hne : g ≠ g') : (w.setCell ⟨g', 0, none⟩ x).heap[g]? = some o := by
  rw [Below.heap_setCell w ⟨g', 0, none⟩ x g hne]; exact h
/-- The world behind the closure that has recovered. -/
def caught (w : World) (p q : Nat) : World := ((w.alloc (.cells #[] 45)).setCell ⟨p, 0, none⟩ (.slice none 0 0)).setCell ⟨q, 0, none⟩ (.int .i64 1)
theorem catch_panicking {p q : Nat} {w : World} {u v : Value} {tp tq : TypeId} (hP : w.heap[p]? = some (.cells #[u] tp (0, 0))) (hQ : w.heap[q]? = some (.cells #[v] tq (0, 0))) (hne : q ≠ p) :
    CallsD Try.prog 18 #[.pointer (some ⟨p, 0, none⟩), .pointer (some ⟨q, 0, none⟩)] (.panicking [pm]) w fun e u' w' =>
      e = .returned (.tuple #[]) ∧ u' = .panicking [{ pm with recovered := true }] ∧ w' = caught w p q := by
  have hp := cell_of (alloc_of (o' := .cells #[] 45) hP)
  have hzp := froz_of (alloc_of (o' := .cells #[] 45) hP)
  have hq := cell_of (set_of (x := .slice none 0 0) (alloc_of (o' := .cells #[] 45) hQ) hne)
  have hzq := froz_of (set_of (x := .slice none 0 0) (alloc_of (o' := .cells #[] 45) hQ) hne)
  unfold caught
  refine callsD_of_wpS Try.func18 rfl fun c₀ cs hu => ?_
  unfold pm at hu
  have hta : ∀ w : World, (Instr.typeAssert (.iface 45 (.agg #[])) 20 45 true).run Try.prog w = .ok (.tuple #[.agg #[], .bool true]) w := fun _ => by kernel_rfl
  have ht0 : (#[Value.pointer (some ⟨p, 0, none⟩), Value.pointer (some ⟨q, 0, none⟩)] ++ Array.replicate (Try.f18.ntmps - (#[Value.pointer (some ⟨p, 0, none⟩), Value.pointer (some ⟨q, 0, none⟩)] : Array Value).size) undef : Array Value) = #[.pointer (some ⟨p, 0, none⟩), .pointer (some ⟨q, 0, none⟩), undef, undef, undef, undef, undef, undef, undef, undef, undef, undef, undef, undef, undef, undef] := by kernel_rfl
  rw [ht0]
  apply wpS_seq
  apply wpS_region
  simp [wpOpsS, go_sem, recoverD, hu, Exit.thenS]
  refine wpS_of_wp ?_
  go_wp2
  cases c₀
  simp [bodyPostS, results, Try.results18, pm, go_sem]
end Go.Proofs.Ytcdkgccmmfjnhaa.Fm
