/- The top: resolve.Object, budget.Charge at the run. -/
import Derived.Test.YthghblmffdfbaaaGreatDoorTaH
import Derived.Laws.EntriesVeiled
import Derived.Deep.RegionHeld3
import Derived.Laws.CopyOwn
import Derived.LoopN
import Derived.Deep.RegionLaw

namespace Go.Proofs.YthghblmffdfbaaaGreatDoor.Tp
open Go Go.RowKit Go.Proofs.YthghblmffdfbaaaGreatDoor Go.Proofs.YthghblmffdfbaaaGreatDoor.M Go.Proofs.YthghblmffdfbaaaGreatDoor.PFrBase Go.Proofs.YthghblmffdfbaaaGreatDoor.QFrBase Go.Proofs.YthghblmffdfbaaaGreatDoorW.PrintWords Go.Proofs.YthghblmffdfbaaaGreatDoorW.PrintLast Go.Proofs.YthghblmffdfbaaaGreatDoorW.PrintMore
attribute [local go_sem] max2_int min2_int max_two min_two
set_option linter.unusedVariables false
set_option linter.unusedSimpArgs false
set_option maxHeartbeats 8000000
set_option maxRecDepth 100000
attribute [local go_sem] pS pC
theorem below_cell {B : Nat} {w w' : World} (h : Below B w w') : ∀ p : Addr, p.block < B → w'.cell? p = w.cell? p := fun p hp => by simp only [World.cell?, h.block _ hp]
theorem below_then {W w w1 : World} (h : Below W.heap.size W w) (hb : Below w.heap.size w w1) : Below W.heap.size W w1 := h.trans (hb.mono h.size)
theorem box1 {w : World} {g t : Nat} {a0 : Value} (h : w.heap[g]? = some (.cells #[a0] t (0, 0))) : w.cell? ⟨g, 0, none⟩ = some a0 ∧ w.frozen? ⟨g, 0, none⟩ = false := ⟨(blk_cell h 0).trans rfl, blk_frozen h 0⟩
theorem box3 {w : World} {g t : Nat} {a0 a1 a2 : Value} (h : w.heap[g]? = some (.cells #[a0, a1, a2] t (0, 0))) : w.cell? ⟨g, 0, none⟩ = some a0 ∧ w.cell? ⟨g, 1, none⟩ = some a1 ∧ w.cell? ⟨g, 2, none⟩ = some a2 ∧ w.frozen? ⟨g, 0, none⟩ = false ∧ w.frozen? ⟨g, 1, none⟩ = false ∧ w.frozen? ⟨g, 2, none⟩ = false := ⟨(blk_cell h 0).trans rfl, (blk_cell h 1).trans rfl, (blk_cell h 2).trans rfl, blk_frozen h 0, blk_frozen h 1, blk_frozen h 2⟩
theorem box5 {w : World} {g t : Nat} {a0 a1 a2 a3 a4 : Value} (h : w.heap[g]? = some (.cells #[a0, a1, a2, a3, a4] t (0, 0))) : w.cell? ⟨g, 0, none⟩ = some a0 ∧ w.cell? ⟨g, 1, none⟩ = some a1 ∧ w.cell? ⟨g, 2, none⟩ = some a2 ∧ w.cell? ⟨g, 3, none⟩ = some a3 ∧ w.cell? ⟨g, 4, none⟩ = some a4 ∧ w.frozen? ⟨g, 0, none⟩ = false ∧ w.frozen? ⟨g, 1, none⟩ = false ∧ w.frozen? ⟨g, 2, none⟩ = false ∧ w.frozen? ⟨g, 3, none⟩ = false ∧ w.frozen? ⟨g, 4, none⟩ = false := ⟨(blk_cell h 0).trans rfl, (blk_cell h 1).trans rfl, (blk_cell h 2).trans rfl, (blk_cell h 3).trans rfl, (blk_cell h 4).trans rfl, blk_frozen h 0, blk_frozen h 1, blk_frozen h 2, blk_frozen h 3, blk_frozen h 4⟩
theorem box8 {w : World} {g t : Nat} {a0 a1 a2 a3 a4 a5 a6 a7 : Value} (h : w.heap[g]? = some (.cells #[a0, a1, a2, a3, a4, a5, a6, a7] t (0, 0))) : w.cell? ⟨g, 0, none⟩ = some a0 ∧ w.cell? ⟨g, 1, none⟩ = some a1 ∧ w.cell? ⟨g, 2, none⟩ = some a2 ∧ w.cell? ⟨g, 3, none⟩ = some a3 ∧ w.cell? ⟨g, 4, none⟩ = some a4 ∧ w.cell? ⟨g, 5, none⟩ = some a5 ∧ w.cell? ⟨g, 6, none⟩ = some a6 ∧ w.cell? ⟨g, 7, none⟩ = some a7 ∧ w.frozen? ⟨g, 0, none⟩ = false ∧ w.frozen? ⟨g, 1, none⟩ = false ∧ w.frozen? ⟨g, 2, none⟩ = false ∧ w.frozen? ⟨g, 3, none⟩ = false ∧ w.frozen? ⟨g, 4, none⟩ = false ∧ w.frozen? ⟨g, 5, none⟩ = false ∧ w.frozen? ⟨g, 6, none⟩ = false ∧ w.frozen? ⟨g, 7, none⟩ = false := ⟨(blk_cell h 0).trans rfl, (blk_cell h 1).trans rfl, (blk_cell h 2).trans rfl, (blk_cell h 3).trans rfl, (blk_cell h 4).trans rfl, (blk_cell h 5).trans rfl, (blk_cell h 6).trans rfl, (blk_cell h 7).trans rfl, blk_frozen h 0, blk_frozen h 1, blk_frozen h 2, blk_frozen h 3, blk_frozen h 4, blk_frozen h 5, blk_frozen h 6, blk_frozen h 7⟩
theorem box10 {w : World} {g t : Nat} {a0 a1 a2 a3 a4 a5 a6 a7 a8 a9 : Value} (h : w.heap[g]? = some (.cells #[a0, a1, a2, a3, a4, a5, a6, a7, a8, a9] t (0, 0))) : w.cell? ⟨g, 0, none⟩ = some a0 ∧ w.cell? ⟨g, 1, none⟩ = some a1 ∧ w.cell? ⟨g, 2, none⟩ = some a2 ∧ w.cell? ⟨g, 3, none⟩ = some a3 ∧ w.cell? ⟨g, 4, none⟩ = some a4 ∧ w.cell? ⟨g, 5, none⟩ = some a5 ∧ w.cell? ⟨g, 6, none⟩ = some a6 ∧ w.cell? ⟨g, 7, none⟩ = some a7 ∧ w.cell? ⟨g, 8, none⟩ = some a8 ∧ w.cell? ⟨g, 9, none⟩ = some a9 ∧ w.frozen? ⟨g, 0, none⟩ = false ∧ w.frozen? ⟨g, 1, none⟩ = false ∧ w.frozen? ⟨g, 2, none⟩ = false ∧ w.frozen? ⟨g, 3, none⟩ = false ∧ w.frozen? ⟨g, 4, none⟩ = false ∧ w.frozen? ⟨g, 5, none⟩ = false ∧ w.frozen? ⟨g, 6, none⟩ = false ∧ w.frozen? ⟨g, 7, none⟩ = false ∧ w.frozen? ⟨g, 8, none⟩ = false ∧ w.frozen? ⟨g, 9, none⟩ = false := ⟨(blk_cell h 0).trans rfl, (blk_cell h 1).trans rfl, (blk_cell h 2).trans rfl, (blk_cell h 3).trans rfl, (blk_cell h 4).trans rfl, (blk_cell h 5).trans rfl, (blk_cell h 6).trans rfl, (blk_cell h 7).trans rfl, (blk_cell h 8).trans rfl, (blk_cell h 9).trans rfl, blk_frozen h 0, blk_frozen h 1, blk_frozen h 2, blk_frozen h 3, blk_frozen h 4, blk_frozen h 5, blk_frozen h 6, blk_frozen h 7, blk_frozen h 8, blk_frozen h 9⟩
theorem box4 {w : World} {g t : Nat} {a0 a1 a2 a3 : Value} (h : w.heap[g]? = some (.cells #[a0, a1, a2, a3] t (0, 0))) : w.cell? ⟨g, 0, none⟩ = some a0 ∧ w.cell? ⟨g, 1, none⟩ = some a1 ∧ w.cell? ⟨g, 2, none⟩ = some a2 ∧ w.cell? ⟨g, 3, none⟩ = some a3 ∧ w.frozen? ⟨g, 0, none⟩ = false ∧ w.frozen? ⟨g, 1, none⟩ = false ∧ w.frozen? ⟨g, 2, none⟩ = false ∧ w.frozen? ⟨g, 3, none⟩ = false := ⟨(blk_cell h 0).trans rfl, (blk_cell h 1).trans rfl, (blk_cell h 2).trans rfl, (blk_cell h 3).trans rfl, blk_frozen h 0, blk_frozen h 1, blk_frozen h 2, blk_frozen h 3⟩
theorem struct00 : resolve_structure.f ms 0 0 1 0 0 0 false 0 0 0 0 1 = some (1, 0, 1, 1, 0, 0, 0, 1, 0) := by kernel_rfl
theorem object {w : World} {bm : Nat} (hD : DecL w bm) {A0 : Option Addr} {c0 : Nat} (hr0 : Kd.C (Kd.slice 61 (Kd.int .u64)) w A0 1 ms) (hc0 : 1 ≤ c0) :
    Calls Tryz.prog 102 #[.slice A0 1 c0, .int .i64 0, .int .i64 0] w fun e w' => e = .returned (.tuple #[.agg #[.int .i64 1, .int .i64 0, .int .i64 1, .int .i64 1, .int .i64 0, .int .i64 0, .int .i64 0, .int .i64 1], .int .i64 0]) ∧ Below w.heap.size w w' := by
  go_enter Tryz.func102, Tryz.ntmps102
  go_wp2_with (first
    | (go_at_call 99; refine (follow (hD.below ?b0) (A0 := A0) (c0 := c0) ?c0 hc0).mono ?_; (case b0 => repeat (first | exact Below.refl _ _ | apply below_alloc | apply pw_below_drewN | apply below_drew1)); (case c0 => repeat (first | exact hr0 | refine Kd.C_alloc ?_ _ | refine Kd.C_drewN ?_ _ | refine Kd.C_drew ?_)); rintro e w1 ⟨rfl, hb1⟩; have hB1 : Below w.heap.size w w1 := below_then (by repeat (first | exact Below.refl _ _ | apply below_alloc | apply pw_below_drewN | apply below_drew1)) hb1; have hD1 := hD.below hB1; have hr1 := Kd.C_below hr0 hB1; have BK1 := blk_below (g := w.heap.size) (o := .cells #[.int .i64 0, .int .i64 0, .int .i64 0, .int .i64 0, .int .i64 0, .int .i64 0, .int .i64 0, .int .i64 0] 45 (0, 0)) (heap_alloc_new _ _) hb1)
    | (go_at_call 105; refine (decode (hD1.below ?b1)).mono ?_; (case b1 => repeat (first | exact Below.refl _ _ | apply below_alloc | apply pw_below_drewN | apply below_drew1)); rintro e w2 ⟨rfl, rfl⟩)
    | go_in)
  have BP := blk_alloc (blk_new (w := ((w1.alloc pO).alloc pO).alloc pO) (o := .cells #[.int .i64 0, .int .i64 0, .int .i64 1, .int .i64 0, .int .i64 0, .int .i64 0, .bool false, .int .i64 0, .int .u32 0, .int .u32 0] 185 (0, 0)) (g := w1.heap.size + 1 + 1 + 1) (by simp)) (.cells #[.func (.func 144) #[] #[], .func (.func 145) #[] #[], .func (.func 146) #[] #[], .func (.func 146) #[] #[]] 235 (0, 0))
  have BQ := blk_new (w := (((w1.alloc pO).alloc pO).alloc pO).alloc (.cells #[.int .i64 0, .int .i64 0, .int .i64 1, .int .i64 0, .int .i64 0, .int .i64 0, .bool false, .int .i64 0, .int .u32 0, .int .u32 0] 185 (0, 0))) (o := .cells #[.func (.func 144) #[] #[], .func (.func 145) #[] #[], .func (.func 146) #[] #[], .func (.func 146) #[] #[]] 235 (0, 0)) (g := w1.heap.size + 1 + 1 + 1 + 1) (by simp)
  have BR := blk_alloc (blk_alloc (blk_alloc (blk_alloc (blk_alloc BK1 pO) pO) pO) (.cells #[.int .i64 0, .int .i64 0, .int .i64 1, .int .i64 0, .int .i64 0, .int .i64 0, .bool false, .int .i64 0, .int .u32 0, .int .u32 0] 185 (0, 0))) (.cells #[.func (.func 144) #[] #[], .func (.func 145) #[] #[], .func (.func 146) #[] #[], .func (.func 146) #[] #[]] 235 (0, 0))
  have HB := below_alloc (below_alloc (below_alloc (below_alloc (below_alloc hB1 pO) pO) pO) (.cells #[.int .i64 0, .int .i64 0, .int .i64 1, .int .i64 0, .int .i64 0, .int .i64 0, .bool false, .int .i64 0, .int .u32 0, .int .u32 0] 185 (0, 0))) (.cells #[.func (.func 144) #[] #[], .func (.func 145) #[] #[], .func (.func 146) #[] #[], .func (.func 146) #[] #[]] 235 (0, 0))
  have HR := Kd.C_below hr0 HB
  generalize hw2 : ((((w1.alloc pO).alloc pO).alloc pO).alloc (.cells #[.int .i64 0, .int .i64 0, .int .i64 1, .int .i64 0, .int .i64 0, .int .i64 0, .bool false, .int .i64 0, .int .u32 0, .int .u32 0] 185 (0, 0))).alloc (.cells #[.func (.func 144) #[] #[], .func (.func 145) #[] #[], .func (.func 146) #[] #[], .func (.func 146) #[] #[]] 235 (0, 0)) = w2 at *
  generalize hg1 : w1.heap.size + 1 + 1 + 1 = g1 at *
  have i1 : IntKind.i64.wrap 1 = 1 := by decide
  have hl := blk_lt BK1
  have n1 : w.heap.size ≠ g1 := by omega
  have n2 : g1 ≠ w.heap.size := by omega
  have n3 : w.heap.size ≠ g1 + 1 := by omega
  have n4 : g1 + 1 ≠ w.heap.size := by omega
  clear hl hg1 hw2
  go_region_held3 (fun w' => (w'.cell? ⟨g1, 0, none⟩ = some (.int .i64 0) ∧ w'.cell? ⟨g1, 1, none⟩ = some (.int .i64 0) ∧ w'.cell? ⟨g1, 2, none⟩ = some (.int .i64 1) ∧ w'.cell? ⟨g1, 3, none⟩ = some (.int .i64 0) ∧ w'.cell? ⟨g1, 4, none⟩ = some (.int .i64 0) ∧ w'.cell? ⟨g1, 5, none⟩ = some (.int .i64 0) ∧ w'.cell? ⟨g1, 6, none⟩ = some (.bool false) ∧ w'.cell? ⟨g1, 7, none⟩ = some (.int .i64 0) ∧ w'.cell? ⟨g1, 8, none⟩ = some (.int .u32 0) ∧ w'.cell? ⟨g1, 9, none⟩ = some (.int .u32 0) ∧ w'.frozen? ⟨g1, 0, none⟩ = false ∧ w'.frozen? ⟨g1, 1, none⟩ = false ∧ w'.frozen? ⟨g1, 2, none⟩ = false ∧ w'.frozen? ⟨g1, 3, none⟩ = false ∧ w'.frozen? ⟨g1, 4, none⟩ = false ∧ w'.frozen? ⟨g1, 5, none⟩ = false ∧ w'.frozen? ⟨g1, 6, none⟩ = false ∧ w'.frozen? ⟨g1, 7, none⟩ = false ∧ w'.frozen? ⟨g1, 8, none⟩ = false ∧ w'.frozen? ⟨g1, 9, none⟩ = false) ∧ (w'.cell? ⟨g1 + 1, 0, none⟩ = some (.func (.func 144) #[] #[]) ∧ w'.cell? ⟨g1 + 1, 1, none⟩ = some (.func (.func 145) #[] #[]) ∧ w'.cell? ⟨g1 + 1, 2, none⟩ = some (.func (.func 146) #[] #[]) ∧ w'.cell? ⟨g1 + 1, 3, none⟩ = some (.func (.func 146) #[] #[]) ∧ w'.frozen? ⟨g1 + 1, 0, none⟩ = false ∧ w'.frozen? ⟨g1 + 1, 1, none⟩ = false ∧ w'.frozen? ⟨g1 + 1, 2, none⟩ = false ∧ w'.frozen? ⟨g1 + 1, 3, none⟩ = false))
    (first | with_reducible exact ⟨box10 BP3, box4 BQ3⟩ | with_reducible exact ⟨box10 (blk_drew BP), box4 (blk_drew BQ)⟩ | with_reducible exact ⟨box10 BP, box4 BQ⟩ | go_keep)
    (first | (go_at_call 144; refine (resolve_structure.calls A0 c0 ms 0 0 1 0 0 0 false 0 0 0 0 1 _ _ _ _ _ _ _ _ _ _ (by repeat (first | exact HR | refine Kd.C_alloc ?_ _ | refine Kd.C_drewN ?_ _ | refine Kd.C_drew ?_)) hc0 struct00).mono ?_; rintro e w3 ⟨rfl, hb3⟩; have BP3 := blk_below (blk_drew BP) hb3; have BQ3 := blk_below (blk_drew BQ) hb3; have BR3 := blk_below (blk_drew BR) hb3; have hB3 : Below w.heap.size w w3 := below_then (below_drew1 HB) hb3; obtain ⟨cr0, cr1, cr2, cr3, cr4, cr5, cr6, cr7, zr0, zr1, zr2, zr3, zr4, zr5, zr6, zr7⟩ := box8 BR3))
  have BF : ((((((((w3.setCell ⟨w.heap.size, 0, none⟩ (.int .i64 1)).setCell ⟨w.heap.size, 1, none⟩ (.int .i64 0)).setCell ⟨w.heap.size, 2, none⟩ (.int .i64 1)).setCell ⟨w.heap.size, 3, none⟩ (.int .i64 1)).setCell ⟨w.heap.size, 4, none⟩ (.int .i64 0)).setCell ⟨w.heap.size, 5, none⟩ (.int .i64 0)).setCell ⟨w.heap.size, 6, none⟩ (.int .i64 0)).setCell ⟨w.heap.size, 7, none⟩ (.int .i64 1)).heap[w.heap.size]? = some (.cells #[.int .i64 1, .int .i64 0, .int .i64 1, .int .i64 1, .int .i64 0, .int .i64 0, .int .i64 0, .int .i64 1] 45 (0, 0)) := by refine blk_put (cs := #[.int .i64 1, .int .i64 0, .int .i64 1, .int .i64 1, .int .i64 0, .int .i64 0, .int .i64 0, .int .i64 0]) ?_ 7 _ rfl; refine blk_put (cs := #[.int .i64 1, .int .i64 0, .int .i64 1, .int .i64 1, .int .i64 0, .int .i64 0, .int .i64 0, .int .i64 0]) ?_ 6 _ rfl; refine blk_put (cs := #[.int .i64 1, .int .i64 0, .int .i64 1, .int .i64 1, .int .i64 0, .int .i64 0, .int .i64 0, .int .i64 0]) ?_ 5 _ rfl; refine blk_put (cs := #[.int .i64 1, .int .i64 0, .int .i64 1, .int .i64 1, .int .i64 0, .int .i64 0, .int .i64 0, .int .i64 0]) ?_ 4 _ rfl; refine blk_put (cs := #[.int .i64 1, .int .i64 0, .int .i64 1, .int .i64 0, .int .i64 0, .int .i64 0, .int .i64 0, .int .i64 0]) ?_ 3 _ rfl; refine blk_put (cs := #[.int .i64 1, .int .i64 0, .int .i64 0, .int .i64 0, .int .i64 0, .int .i64 0, .int .i64 0, .int .i64 0]) ?_ 2 _ rfl; refine blk_put (cs := #[.int .i64 1, .int .i64 0, .int .i64 0, .int .i64 0, .int .i64 0, .int .i64 0, .int .i64 0, .int .i64 0]) ?_ 1 _ rfl; refine blk_put (cs := #[.int .i64 0, .int .i64 0, .int .i64 0, .int .i64 0, .int .i64 0, .int .i64 0, .int .i64 0, .int .i64 0]) ?_ 0 _ rfl; exact BR3
  have HF : Below w.heap.size w ((((((((w3.setCell ⟨w.heap.size, 0, none⟩ (.int .i64 1)).setCell ⟨w.heap.size, 1, none⟩ (.int .i64 0)).setCell ⟨w.heap.size, 2, none⟩ (.int .i64 1)).setCell ⟨w.heap.size, 3, none⟩ (.int .i64 1)).setCell ⟨w.heap.size, 4, none⟩ (.int .i64 0)).setCell ⟨w.heap.size, 5, none⟩ (.int .i64 0)).setCell ⟨w.heap.size, 6, none⟩ (.int .i64 0)).setCell ⟨w.heap.size, 7, none⟩ (.int .i64 1)) := by repeat (first | (with_reducible exact hB3) | refine below_set ?_ (Nat.le_refl _))
  clear cr0 cr1 cr2 cr3 cr4 cr5 cr6 cr7 zr0 zr1 zr2 zr3 zr4 zr5 zr6 zr7 BP BQ BR BP3 BQ3 HR HB hr1 hD1 hB1 hb1 BK1 hb3 hr0 BR3 hB3
  go_wp2
  refine bodyPost_ret (results_ct rfl _ _ w.heap.size 45 _ (0, 0) _ rfl BF Tryz.underlying45 rfl (by kernel_rfl)) rfl ?_
  exact ⟨rfl, HF⟩
theorem charge (w : World) :
    Calls Tryz.prog 103 #[.agg #[.int .i64 100], .int .i64 1] w fun e w' => e = .returned (.tuple #[.agg #[.int .i64 99], .int .i64 0]) ∧ Below w.heap.size w w' := by
  go_enter Tryz.func103, Tryz.ntmps103
  go_wp2
  refine bodyPost_ret (results_ct rfl _ _ (w.heap.size + 1) 86 #[.int .i64 99] (0, 0) _ rfl (blk_alloc (blk_new (by simp)) _) Tryz.underlying86 rfl (by kernel_rfl)) rfl ?_
  refine ⟨rfl, ?_⟩
  repeat (first | exact Below.refl _ _ | apply below_alloc | apply pw_below_drewN | apply below_drew1)
end Go.Proofs.YthghblmffdfbaaaGreatDoor.Tp

/- The top: the rows of the run's message; arena.Slice at the run. -/
namespace Go.Proofs.YthghblmffdfbaaaGreatDoor.Tp
open Go Go.RowKit Go.Proofs.YthghblmffdfbaaaGreatDoor Go.Proofs.YthghblmffdfbaaaGreatDoor.M Go.Proofs.YthghblmffdfbaaaGreatDoor.PFrBase Go.Proofs.YthghblmffdfbaaaGreatDoor.QFrBase Go.Proofs.YthghblmffdfbaaaGreatDoorW.PrintWords Go.Proofs.YthghblmffdfbaaaGreatDoorW.PrintLast Go.Proofs.YthghblmffdfbaaaGreatDoorW.PrintMore
attribute [local go_sem] max2_int min2_int max_two min_two
set_option linter.unusedVariables false
set_option linter.unusedSimpArgs false
set_option maxHeartbeats 8000000
set_option maxRecDepth 100000
theorem ms_cells {w : World} {A0 : Option Addr} (h : Kd.C (Kd.slice 61 (Kd.int .u64)) w A0 1 ms) :
    ∃ (a b : Addr) (c : Nat), A0 = some a ∧ w.cell? a = some (.slice (some b) 2 c) ∧ 2 ≤ c ∧ Kd.C (Kd.int .u64) w (some b) 2 [4294967296, 5] := by
  obtain ⟨_, _, h3⟩ := h
  obtain ⟨ad, ha, hr⟩ := h3 (by decide)
  obtain ⟨cs, c1, c2, c3⟩ := hr 0 [4294967296, 5] rfl
  obtain ⟨B, c, rfl, hl, hC⟩ : ∃ A c, cs = [.slice A 2 c] ∧ 2 ≤ c ∧ Kd.C (Kd.int .u64) w A 2 [4294967296, 5] := c2
  obtain ⟨b, hb, _⟩ := hC.2.2 (by decide)
  subst hb
  have h0 := c3 0 _ rfl
  refine ⟨ad, b, c, ha, ?_, hl, hC⟩
  have e : ad.add (0 * (Kd.slice 61 (Kd.int .u64)).sz + 0) = ad := by rw [Nat.zero_mul]; simp [Addr.add]
  rw [e] at h0
  exact h0
theorem C2_cells {w : World} {b : Addr} {x y : Int} (h : Kd.C (Kd.int .u64) w (some b) 2 [x, y]) : w.cell? (b.add 0) = some (.int .u64 x) ∧ w.cell? (b.add 1) = some (.int .u64 y) := by
  obtain ⟨a0, e0, h0⟩ := Kd.at_int h 0 (by decide) (by decide)
  obtain ⟨a1, e1, h1⟩ := Kd.at_int h 1 (by decide) (by decide)
  cases e0; cases e1
  exact ⟨h0, h1⟩
theorem mk1 (w : World) : (Instr.makeSlice 27 (.int .i64 1) (.int .i64 1)).run Tryz.prog w = .ok (.slice (some ⟨w.heap.size, 0, none⟩) 1 1) (w.alloc (.cells #[.int .u64 0] 61 (0, 0))) := by
  obtain ⟨i0, hi0, hz0, hsz, hby⟩ := info_parts info61
  have hmk := run_make (P := Tryz.prog) (w := w) 27 61 i0 (.int .u64 0) Tryz.underlying27 hi0 hz0 .i64 .i64 1 1 (by omega) (Int.le_refl _) (by rw [hby]; omega) (by omega)
  rw [hsz] at hmk
  rw [show madeCells (Value.int .u64 0).cells (Int.toNat 1 * 1) = #[.int .u64 0] by kernel_rfl] at hmk
  exact hmk
theorem szu64 : (Tryz.prog.info? 61).map (·.size) = some 1 := by kernel_rfl
theorem inB : arena_InBounds.f ms 0 1 1 = some true := by kernel_rfl
theorem slice1 {w : World} {A0 : Option Addr} {c0 : Nat} (hr0 : Kd.C (Kd.slice 61 (Kd.int .u64)) w A0 1 ms) (hc0 : 1 ≤ c0) :
    Calls Tryz.prog 174 #[.slice A0 1 c0, .int .i64 0, .int .i64 1, .int .i64 1] w fun e w' => ∃ g : Nat, e = .returned (.tuple #[.slice (some ⟨g, 0, none⟩) 1 1, .bool true]) ∧ w'.heap[g]? = some (.cells #[.int .u64 5] 61 (0, 0)) ∧ Below w.heap.size w w' := by
  obtain ⟨a, b, c, rfl, ha, hc, hC⟩ := ms_cells hr0
  obtain ⟨_, hb1⟩ := C2_cells hC
  have HR := Aside0.mk hr0
  clear hr0
  go_enter Tryz.func174, Tryz.ntmps174
  go_wp2_with (first
    | (go_at_call 148; refine (arena_InBounds.calls (some a) c0 ms 0 1 1 _ _ HR.out hc0 inB).mono ?_; rintro e w1 ⟨rfl, hd1⟩; have hb := hd1.below; clear hd1; have ha1 := (hb.cell (World.block_lt_of_cell? w _ ha)).trans ha; have hx1 := (hb.cell (World.block_lt_of_cell? w _ hb1)).trans hb1; have hC1 := Kd.C_below hC hb; have HB := hb; have ha2 := fun o => (below_cell (below_alloc (Below.refl w1.heap.size w1) o) a (World.block_lt_of_cell? w1 _ ha1)).trans ha1; have hmk := mk1 w1; have hn1 : (w1.alloc (.cells #[.int .u64 0] 61 (0, 0))).heap[w1.heap.size]? = some (.cells [Value.int .u64 0].toArray 61 (0, 0)) := heap_alloc_new _ _; have hx2 := (below_cell (below_alloc (Below.refl w1.heap.size w1) (.cells #[.int .u64 0] 61 (0, 0))) (b.add 1) (World.block_lt_of_cell? w1 _ hx1)).trans hx1; have hcp : ∀ (j : Nat) (v : Value), [Value.int .u64 5][j]? = some v → (w1.alloc (.cells #[.int .u64 0] 61 (0, 0))).cell? ((⟨b.block, b.off + 1, none⟩ : Addr).add j) = some v := fun j v hj => by (cases j with | zero => (simp only [List.getElem?_cons_zero, Option.some.injEq] at hj; subst hj; exact hx2) | succ k => simp at hj))
    | (go_loud (refine wpList_copy_splice rfl (.tmp 19) (.tmp 25) 27 27 rfl 61 Tryz.underlying27 szu64 (some ⟨w1.heap.size, 0, none⟩) (some ⟨b.block, b.off + 1, none⟩) 1 1 1 (c - 1) rfl rfl w1.heap.size 0 [.int .u64 0] 61 hn1 [.int .u64 5] (by simp) (fun hp => ⟨rfl, _, rfl, hcp⟩) (by simp) (by simp [Value.oneCell']) w1.heap.size w1 (below_alloc (Below.refl _ _) _) (Nat.le_refl _) ?_; intro w2 hg2 hb2)))
  have hg := hg2
  unfold Hid at hg
  go_ret2
  exact ⟨w1.heap.size, rfl, hg, below_then HB hb2⟩
end Go.Proofs.YthghblmffdfbaaaGreatDoor.Tp

/- The top: denote.reader's bytes, pointers, structure at the run. -/
namespace Go.Proofs.YthghblmffdfbaaaGreatDoor.Tp
open Go Go.RowKit Go.Proofs.YthghblmffdfbaaaGreatDoor Go.Proofs.YthghblmffdfbaaaGreatDoor.M Go.Proofs.YthghblmffdfbaaaGreatDoor.PFrBase Go.Proofs.YthghblmffdfbaaaGreatDoor.QFrBase Go.Proofs.YthghblmffdfbaaaGreatDoorW.PrintWords Go.Proofs.YthghblmffdfbaaaGreatDoorW.PrintLast Go.Proofs.YthghblmffdfbaaaGreatDoorW.PrintMore
attribute [local go_sem] max2_int min2_int max_two min_two
set_option linter.unusedVariables false
set_option linter.unusedSimpArgs false
set_option maxHeartbeats 8000000
set_option maxRecDepth 100000
def rO (A0 : Option Addr) (c0 : Nat) (m : Int) : Obj := .cells #[.slice A0 1 c0, .int .i64 5, .int .i64 100, .int .i64 100, .int .i64 m] 257 (0, 0)
def oV : Value := .agg #[.int .i64 1, .int .i64 0, .int .i64 1, .int .i64 1, .int .i64 0, .int .i64 0, .int .i64 0, .int .i64 1]
def d8 : List Int := [5, 0, 0, 0, 0, 0, 0, 0]
theorem bytes5 : word_Bytes.f 20 [5] = some d8 := by kernel_rfl
theorem C1_of {w : World} {g : Nat} (h : w.heap[g]? = some (.cells #[.int .u64 5] 61 (0, 0))) : Kd.C (Kd.int .u64) w (some ⟨g, 0, none⟩) 1 [5] :=
  ⟨rfl, by decide, fun _ => ⟨_, rfl, fun j p hj => by
    cases j with
    | zero =>
      simp only [List.getElem?_cons_zero, Option.some.injEq] at hj
      subst hj
      refine ⟨[.int .u64 5], rfl, rfl, fun i u hu => ?_⟩
      cases i with
      | zero =>
        simp only [List.getElem?_cons_zero, Option.some.injEq] at hu
        subst hu
        exact (blk_cell h 0).trans rfl
      | succ k => simp at hu
    | succ k => simp at hj⟩⟩
theorem rbytes {w : World} {gr : Nat} {A0 : Option Addr} {c0 : Nat} {m : Int} (hr0 : Kd.C (Kd.slice 61 (Kd.int .u64)) w A0 1 ms) (hc0 : 1 ≤ c0) (hr : w.heap[gr]? = some (rO A0 c0 m)) :
    Calls Tryz.prog 199 #[.pointer (some ⟨gr, 0, none⟩), oV, .int .i64 1, .int .i64 1] w fun e w' => ∃ v0_ : Value, e = .returned v0_ ∧ Kd.R (Kd.int .u8) 5 w' w.heap.size (fun _ => True) v0_ d8 ∧ Below w.heap.size w w' := by
  obtain ⟨cr0, cr1, cr2, cr3, cr4, zr0, zr1, zr2, zr3, zr4⟩ := box5 hr
  have HR := Aside0.mk hr0
  clear hr0
  unfold oV
  unfold rO at hr
  clear cr0 cr1 cr2 cr3 cr4 zr0 zr1 zr2 zr3 zr4
  go_enter Tryz.func199, Tryz.ntmps199
  go_wp2_with (first | fail)
  have BO := heap_alloc_new w (.cells #[.int .i64 1, .int .i64 0, .int .i64 1, .int .i64 1, .int .i64 0, .int .i64 0, .int .i64 0, .int .i64 1] 45 (0, 0))
  have BR := blk_alloc hr (.cells #[.int .i64 1, .int .i64 0, .int .i64 1, .int .i64 1, .int .i64 0, .int .i64 0, .int .i64 0, .int .i64 1] 45 (0, 0))
  have HB := below_alloc (Below.refl w.heap.size w) (.cells #[.int .i64 1, .int .i64 0, .int .i64 1, .int .i64 1, .int .i64 0, .int .i64 0, .int .i64 0, .int .i64 1] 45 (0, 0))
  have HC := Kd.C_below HR.out HB
  generalize hw2 : w.alloc (.cells #[.int .i64 1, .int .i64 0, .int .i64 1, .int .i64 1, .int .i64 0, .int .i64 0, .int .i64 0, .int .i64 1] 45 (0, 0)) = w2 at *
  clear hw2
  go_region_held3 (fun w' => w'.cell? ⟨gr, 0, none⟩ = some (.slice A0 1 c0) ∧ w'.cell? ⟨w.heap.size, 1, none⟩ = some (.int .i64 0))
    (first | with_reducible exact ⟨(blk_cell BR3 0).trans rfl, (blk_cell BO3 1).trans rfl⟩ | with_reducible exact ⟨(blk_cell (blk_drew BR) 0).trans rfl, (blk_cell (blk_drew BO) 1).trans rfl⟩ | with_reducible exact ⟨(blk_cell BR 0).trans rfl, (blk_cell BO 1).trans rfl⟩ | go_keep)
    (first | (go_at_call 174; refine (slice1 (A0 := A0) (c0 := c0) (Kd.C_drew HC) hc0).mono ?_; rintro e w3 ⟨g, rfl, hg3, hb3⟩; have BR3 := blk_below (blk_drew BR) hb3; have BO3 := blk_below (blk_drew BO) hb3; have hB3 : Below w.heap.size w w3 := below_then (below_drew1 HB) hb3))
  go_wp2_with (first | (go_at_call 34; refine (word_Bytes.calls 20 (some ⟨g, 0, none⟩) 1 [5] d8 _ (C1_of hg3) (by decide) bytes5).mono ?_; rintro e w4 ⟨v4, rfl, ho4, hb4⟩))
  go_ret
  exact ⟨v4, rfl, Kd.R_lower ho4 hB3.size, below_then hB3 hb4⟩
theorem ptrs0 : resolve_Pointers.f 20 1 0 1 1 0 0 0 1 = some (0, 0) := by kernel_rfl
theorem rpointers {w : World} {gr : Nat} (d : Int) :
    Calls Tryz.prog 200 #[.pointer (some ⟨gr, 0, none⟩), oV, .int .i64 d] w fun e w' => e = .returned (.slice none 0 0) ∧ Below w.heap.size w w' := by
  unfold oV
  go_enter Tryz.func200, Tryz.ntmps200
  go_wp2_with (first | (go_at_call 106; refine (resolve_Pointers.calls 20 1 0 1 1 0 0 0 1 0 0 _ ptrs0).mono ?_; rintro e w4 ⟨rfl, hb4⟩))
  refine wp_loop_rounds 1 ?_
  rw [rounds_succ]
  go_wp2
  go_ret
  exact ⟨rfl, below_then (below_alloc (Below.refl _ _) _) hb4⟩
theorem rstructure {w : World} {gr : Nat} {A0 : Option Addr} {c0 : Nat} {m : Int} (d : Int) (hr0 : Kd.C (Kd.slice 61 (Kd.int .u64)) w A0 1 ms) (hc0 : 1 ≤ c0) (hr : w.heap[gr]? = some (rO A0 c0 m)) :
    Calls Tryz.prog 185 #[.pointer (some ⟨gr, 0, none⟩), oV, .int .i64 d] w fun e w' => ∃ v0_ : Value, e = .returned (.agg #[.int .i64 1, .int .i64 0, .int .i64 0, v0_, .slice none 0 0]) ∧ Kd.R (Kd.int .u8) 5 w' w.heap.size (fun _ => True) v0_ d8 ∧ Below w.heap.size w w' := by
  have HR := Aside0.mk hr0
  have HRR := Aside0.mk hr
  clear hr0 hr
  unfold oV
  go_enter Tryz.func185, Tryz.ntmps185
  go_wp2_with (first | fail)
  have BO := blk_alloc (heap_alloc_new w (.cells #[.int .i64 1, .int .i64 0, .int .i64 1, .int .i64 1, .int .i64 0, .int .i64 0, .int .i64 0, .int .i64 1] 45 (0, 0))) (.cells #[.int .i64 0, .int .i64 0, .int .i64 0, .slice none 0 0, .slice none 0 0] 67 (0, 0))
  have BN := blk_new (w := w.alloc (.cells #[.int .i64 1, .int .i64 0, .int .i64 1, .int .i64 1, .int .i64 0, .int .i64 0, .int .i64 0, .int .i64 1] 45 (0, 0))) (o := .cells #[.int .i64 0, .int .i64 0, .int .i64 0, .slice none 0 0, .slice none 0 0] 67 (0, 0)) (g := w.heap.size + 1) (by simp)
  have BR := blk_alloc (blk_alloc HRR.out (.cells #[.int .i64 1, .int .i64 0, .int .i64 1, .int .i64 1, .int .i64 0, .int .i64 0, .int .i64 0, .int .i64 1] 45 (0, 0))) (.cells #[.int .i64 0, .int .i64 0, .int .i64 0, .slice none 0 0, .slice none 0 0] 67 (0, 0))
  have HB := below_alloc (below_alloc (Below.refl w.heap.size w) (.cells #[.int .i64 1, .int .i64 0, .int .i64 1, .int .i64 1, .int .i64 0, .int .i64 0, .int .i64 0, .int .i64 1] 45 (0, 0))) (.cells #[.int .i64 0, .int .i64 0, .int .i64 0, .slice none 0 0, .slice none 0 0] 67 (0, 0))
  have HC := Kd.C_below HR.out HB
  generalize hw2 : (w.alloc (.cells #[.int .i64 1, .int .i64 0, .int .i64 1, .int .i64 1, .int .i64 0, .int .i64 0, .int .i64 0, .int .i64 1] 45 (0, 0))).alloc (.cells #[.int .i64 0, .int .i64 0, .int .i64 0, .slice none 0 0, .slice none 0 0] 67 (0, 0)) = w2 at *
  clear hw2
  go_region_held3 (fun w' => w'.cell? ⟨w.heap.size, 0, none⟩ = some (.int .i64 1) ∧ w'.cell? ⟨w.heap.size, 1, none⟩ = some (.int .i64 0) ∧ w'.cell? ⟨w.heap.size, 2, none⟩ = some (.int .i64 1) ∧ w'.cell? ⟨w.heap.size, 3, none⟩ = some (.int .i64 1) ∧ w'.cell? ⟨w.heap.size, 4, none⟩ = some (.int .i64 0) ∧ w'.cell? ⟨w.heap.size, 5, none⟩ = some (.int .i64 0) ∧ w'.cell? ⟨w.heap.size, 6, none⟩ = some (.int .i64 0) ∧ w'.cell? ⟨w.heap.size, 7, none⟩ = some (.int .i64 1))
    (first | with_reducible exact ⟨(blk_cell BO4 0).trans rfl, (blk_cell BO4 1).trans rfl, (blk_cell BO4 2).trans rfl, (blk_cell BO4 3).trans rfl, (blk_cell BO4 4).trans rfl, (blk_cell BO4 5).trans rfl, (blk_cell BO4 6).trans rfl, (blk_cell BO4 7).trans rfl⟩ | with_reducible exact ⟨(blk_cell BO3 0).trans rfl, (blk_cell BO3 1).trans rfl, (blk_cell BO3 2).trans rfl, (blk_cell BO3 3).trans rfl, (blk_cell BO3 4).trans rfl, (blk_cell BO3 5).trans rfl, (blk_cell BO3 6).trans rfl, (blk_cell BO3 7).trans rfl⟩ | with_reducible exact ⟨(blk_cell (blk_drew BO) 0).trans rfl, (blk_cell (blk_drew BO) 1).trans rfl, (blk_cell (blk_drew BO) 2).trans rfl, (blk_cell (blk_drew BO) 3).trans rfl, (blk_cell (blk_drew BO) 4).trans rfl, (blk_cell (blk_drew BO) 5).trans rfl, (blk_cell (blk_drew BO) 6).trans rfl, (blk_cell (blk_drew BO) 7).trans rfl⟩ | with_reducible exact ⟨(blk_cell BO 0).trans rfl, (blk_cell BO 1).trans rfl, (blk_cell BO 2).trans rfl, (blk_cell BO 3).trans rfl, (blk_cell BO 4).trans rfl, (blk_cell BO 5).trans rfl, (blk_cell BO 6).trans rfl, (blk_cell BO 7).trans rfl⟩ | go_keep)
    (first | (go_at_call 199; refine (rbytes (m := m) (A0 := A0) (c0 := c0) (Kd.C_drew HC) hc0 (blk_drew BR)).mono ?_; rintro e w3 ⟨v3, rfl, ho3, hb3⟩; obtain ⟨Av, cv, rfl⟩ := Kd.R_slice ho3; have BN3 := blk_below (blk_drew BN) hb3; have BO3 := blk_below (blk_drew BO) hb3; have hB3 : Below w.heap.size w w3 := below_then (below_drew1 HB) hb3) | (go_at_call 200; refine (rpointers d).mono ?_; rintro e w4 ⟨rfl, hb4⟩; have ho4 := Kd.R_below ho3 hb4; have BN4 := blk_below BN3 hb4; have BO4 := blk_below BO3 hb4; have hB4 : Below w.heap.size w w4 := below_then hB3 hb4; obtain ⟨cn0, cn1, cn2, cn3, cn4, zn0, zn1, zn2, zn3, zn4⟩ := box5 BN4))
  have BF : (((((w4.setCell ⟨w.heap.size + 1, 0, none⟩ (.int .i64 1)).setCell ⟨w.heap.size + 1, 1, none⟩ (.int .i64 0)).setCell ⟨w.heap.size + 1, 2, none⟩ (.int .i64 0)).setCell ⟨w.heap.size + 1, 3, none⟩ (.slice Av d8.length cv)).setCell ⟨w.heap.size + 1, 4, none⟩ (.slice none 0 0)).heap[w.heap.size + 1]? = some (.cells #[.int .i64 1, .int .i64 0, .int .i64 0, .slice Av d8.length cv, .slice none 0 0] 67 (0, 0)) := by refine blk_put (cs := #[.int .i64 1, .int .i64 0, .int .i64 0, .slice Av d8.length cv, .slice none 0 0]) ?_ 4 _ rfl; refine blk_put (cs := #[.int .i64 1, .int .i64 0, .int .i64 0, .slice none 0 0, .slice none 0 0]) ?_ 3 _ rfl; refine blk_put (cs := #[.int .i64 1, .int .i64 0, .int .i64 0, .slice none 0 0, .slice none 0 0]) ?_ 2 _ rfl; refine blk_put (cs := #[.int .i64 1, .int .i64 0, .int .i64 0, .slice none 0 0, .slice none 0 0]) ?_ 1 _ rfl; refine blk_put (cs := #[.int .i64 0, .int .i64 0, .int .i64 0, .slice none 0 0, .slice none 0 0]) ?_ 0 _ rfl; exact BN4
  have HF : Below w.heap.size w (((((w4.setCell ⟨w.heap.size + 1, 0, none⟩ (.int .i64 1)).setCell ⟨w.heap.size + 1, 1, none⟩ (.int .i64 0)).setCell ⟨w.heap.size + 1, 2, none⟩ (.int .i64 0)).setCell ⟨w.heap.size + 1, 3, none⟩ (.slice Av d8.length cv)).setCell ⟨w.heap.size + 1, 4, none⟩ (.slice none 0 0)) := by repeat (first | (with_reducible exact hB4) | refine below_set ?_ (Nat.le_succ _))
  have HO := Kd.R_mono (ok' := fun _ => True) (Kd.R_lower (Kd.R_far (p := ⟨w.heap.size + 1, 4, none⟩) (Kd.R_far (p := ⟨w.heap.size + 1, 3, none⟩) (Kd.R_far (p := ⟨w.heap.size + 1, 2, none⟩) (Kd.R_far (p := ⟨w.heap.size + 1, 1, none⟩) (Kd.R_far (p := ⟨w.heap.size + 1, 0, none⟩) (Kd.R_types ho4 BN4 (by decide)) (fun _ hk => hk.2) (.int .i64 1)) (fun _ hk => hk.2) (.int .i64 0)) (fun _ hk => hk.2) (.int .i64 0)) (fun _ hk => hk.2) (.slice Av d8.length cv)) (fun _ hk => hk.2) (.slice none 0 0)) HB.size) (fun _ _ => trivial)
  clear cn0 cn1 cn2 cn3 cn4 zn0 zn1 zn2 zn3 zn4 BN BO BR BN3 BO3 BN4 BO4 hB3 hB4 hb3 hb4 ho3 ho4 HB HC
  go_wp2
  refine bodyPost_ret (results_cell_row rfl _ _ (w.heap.size + 1) 67 _ (0, 0) _ rfl BF Tryz.underlying67 rfl (by kernel_rfl)) rfl ?_
  exact ⟨_, rfl, HO, HF⟩
end Go.Proofs.YthghblmffdfbaaaGreatDoor.Tp

/- The top: denote.reader.value at the run. -/
namespace Go.Proofs.YthghblmffdfbaaaGreatDoor.Tp
open Go Go.RowKit Go.Proofs.YthghblmffdfbaaaGreatDoor Go.Proofs.YthghblmffdfbaaaGreatDoor.M Go.Proofs.YthghblmffdfbaaaGreatDoor.PFrBase Go.Proofs.YthghblmffdfbaaaGreatDoor.QFrBase Go.Proofs.YthghblmffdfbaaaGreatDoorW.PrintWords Go.Proofs.YthghblmffdfbaaaGreatDoorW.PrintLast Go.Proofs.YthghblmffdfbaaaGreatDoorW.PrintMore
attribute [local go_sem] max2_int min2_int max_two min_two
set_option linter.unusedVariables false
set_option linter.unusedSimpArgs false
set_option maxHeartbeats 8000000
set_option maxRecDepth 100000
theorem check0 (w : World) : Calls Tryz.prog 184 #[.int .i64 0] w fun e w' => e = .returned (.tuple #[]) ∧ w = w' := by
  go_enter Tryz.func184, Tryz.ntmps184
  go_wp2
  go_end0
  exact ⟨rfl, rfl⟩
theorem enter1 : budget_Enter.f 5 100 100 1 = some 0 := by kernel_rfl
theorem rvalue {W0 w : World} {bm gr : Nat} {A0 : Option Addr} {c0 : Nat} (hD : DecL W0 bm) (hr0 : Kd.C (Kd.slice 61 (Kd.int .u64)) W0 A0 1 ms) (hc0 : 1 ≤ c0) (hW : Below W0.heap.size W0 w) (hg : W0.heap.size ≤ gr) (hr : w.heap[gr]? = some (rO A0 c0 100)) :
    Calls Tryz.prog 155 #[.pointer (some ⟨gr, 0, none⟩), .int .i64 0, .int .i64 0, .int .i64 1] w fun e w' => ∃ v0_ : Value, e = .returned (.agg #[.int .i64 1, .int .i64 0, .int .i64 0, v0_, .slice none 0 0]) ∧ Kd.R (Kd.int .u8) 5 w' W0.heap.size (fun k => k ≠ gr) v0_ d8 ∧ Below W0.heap.size W0 w' ∧ w'.heap[gr]? = some (rO A0 c0 99) := by
  have HR := Aside0.mk hr0
  have HRR := Aside0.mk hr
  have HW := Aside0.mk hW
  have HD := Aside0.mk hD
  clear hr0 hr hW hD
  go_enter Tryz.func155, Tryz.ntmps155
  have hca := fun o => (blk_cell (blk_alloc HRR.out o) 0).trans rfl
  go_wp2_with (first
    | (go_at_call 99; refine (follow (HD.out.below (below_alloc HW.out (.cells #[.int .i64 0, .int .i64 0, .int .i64 0, .slice none 0 0, .slice none 0 0] 67 (0, 0)))) (A0 := A0) (c0 := c0) (Kd.C_below HR.out (below_alloc HW.out (.cells #[.int .i64 0, .int .i64 0, .int .i64 0, .slice none 0 0, .slice none 0 0] 67 (0, 0)))) hc0).mono ?_; rintro e w1 ⟨rfl, hb1⟩; have BR1 := blk_below (blk_alloc HRR.out (.cells #[.int .i64 0, .int .i64 0, .int .i64 0, .slice none 0 0, .slice none 0 0] 67 (0, 0))) hb1; have BZ1 := blk_below (heap_alloc_new w (.cells #[.int .i64 0, .int .i64 0, .int .i64 0, .slice none 0 0, .slice none 0 0] 67 (0, 0))) hb1; have HW1 : Below W0.heap.size W0 w1 := below_then (below_alloc HW.out (.cells #[.int .i64 0, .int .i64 0, .int .i64 0, .slice none 0 0, .slice none 0 0] 67 (0, 0))) hb1; clear hb1; obtain ⟨ca0, ca1, ca2, ca3, ca4, za0, za1, za2, za3, za4⟩ := box5 BR1)
    | (go_at_call 101; refine (budget_Enter.calls 5 100 100 1 0 _ enter1).mono ?_; rintro e w2 ⟨rfl, hb2⟩; have BR2 := blk_below BR1 hb2; have BZ2 := blk_below BZ1 hb2; have HW2 : Below W0.heap.size W0 w2 := below_then HW1 hb2; clear hb2; obtain ⟨cb0, cb1, cb2, cb3, cb4, zb0, zb1, zb2, zb3, zb4⟩ := box5 BR2)
    | (go_at_call 102; refine (object (HD.out.below HW2) (A0 := A0) (c0 := c0) (Kd.C_below HR.out HW2) hc0).mono ?_; rintro e w3 ⟨rfl, hb3⟩; have BR3 := blk_below BR2 hb3; have BZ3 := blk_below BZ2 hb3; have HW3 : Below W0.heap.size W0 w3 := below_then HW2 hb3; clear hb3; obtain ⟨cd0, cd1, cd2, cd3, cd4, zd0, zd1, zd2, zd3, zd4⟩ := box5 BR3)
    | (go_at_call 184; refine (check0 _).mono ?_; rintro e w2 ⟨rfl, rfl⟩)
    | go_in)
  clear ca0 ca1 ca2 ca3 ca4 za0 za1 za2 za3 za4 cb0 cb1 cb2 cb3 cb4 zb0 zb1 zb2 zb3 zb4 cd0 cd1 cd2 cd3 cd4 zd0 zd1 zd2 zd3 zd4 hca
  have BO := heap_alloc_new w3 (.cells #[.int .i64 1, .int .i64 0, .int .i64 1, .int .i64 1, .int .i64 0, .int .i64 0, .int .i64 0, .int .i64 1] 45 (0, 0))
  have BR4 := blk_alloc BR3 (.cells #[.int .i64 1, .int .i64 0, .int .i64 1, .int .i64 1, .int .i64 0, .int .i64 0, .int .i64 0, .int .i64 1] 45 (0, 0))
  have BZ4 := blk_alloc BZ3 (.cells #[.int .i64 1, .int .i64 0, .int .i64 1, .int .i64 1, .int .i64 0, .int .i64 0, .int .i64 0, .int .i64 1] 45 (0, 0))
  have HW4 := below_alloc HW3 (.cells #[.int .i64 1, .int .i64 0, .int .i64 1, .int .i64 1, .int .i64 0, .int .i64 0, .int .i64 0, .int .i64 1] 45 (0, 0))
  have hlr := blk_lt BR3
  have hlz := blk_lt BZ3
  have hnz : w.heap.size ≠ gr := fun e_ => by have := blk_lt HRR.out; omega
  generalize hw4 : w3.alloc (.cells #[.int .i64 1, .int .i64 0, .int .i64 1, .int .i64 1, .int .i64 0, .int .i64 0, .int .i64 0, .int .i64 1] 45 (0, 0)) = w4 at *
  generalize hg3 : w3.heap.size = g3 at *
  have n1 : g3 ≠ gr := by omega
  have n2 : gr ≠ g3 := by omega
  have n3 : g3 ≠ w.heap.size := by omega
  have n4 : w.heap.size ≠ g3 := by omega
  clear hw4 hg3 hlr hlz BR1 BR2 BZ1 BZ2 HW1 HW2 BR3 BZ3 HW3
  have e1 : w4.cell? ⟨gr, 4, none⟩ = some (.int .i64 100) := (blk_cell BR4 4).trans rfl
  have e2 : w4.cell? ⟨g3, 7, none⟩ = some (.int .i64 1) := (blk_cell BO 7).trans rfl
  go_region_law (refine goes_ Tryz.func103 (by kernel_rfl) rfl #[.agg #[.int .i64 100], .int .i64 1] (by rfl) rfl rfl (by first | rfl | simp [Act.eval, Act.put]) ?_; refine (charge _).mono ?_; rintro e w5 ⟨rfl, hb5⟩; refine ⟨_, rfl, ?_⟩; have BR5 := blk_below (blk_drew BR4) hb5; have BZ5 := blk_below (blk_drew BZ4) hb5; have BO5 := blk_below (blk_drew BO) hb5; have HW5 : Below W0.heap.size W0 w5 := below_then (below_drew1 HW4) hb5; have e3 : w5.cell? ⟨gr, 4, none⟩ = some (.int .i64 100) := (blk_cell BR5 4).trans rfl; have e4 : w5.frozen? ⟨gr, 4, none⟩ = false := blk_frozen BR5 4)
  all_goals
    have BR6 : (w5.setCell ⟨gr, 4, none⟩ (.int .i64 99)).heap[gr]? = some (rO A0 c0 99) := blk_put BR5 4 _ rfl
    have BO6 := blk_far BO5 (p := ⟨gr, 4, none⟩) n1 (.int .i64 99)
    have BZ6 := blk_far BZ5 (p := ⟨gr, 4, none⟩) hnz (.int .i64 99)
    have HW6 : Below W0.heap.size W0 (w5.setCell ⟨gr, 4, none⟩ (.int .i64 99)) := below_set HW5 hg
    clear BR4 BO BZ4 HW4 e1 e2 e3 e4 hb5 BR5 BO5 BZ5 HW5
    generalize hw6 : w5.setCell ⟨gr, 4, none⟩ (.int .i64 99) = w6 at *
    clear hw6
    obtain ⟨co0, co1, co2, co3, co4, co5, co6, co7, zo0, zo1, zo2, zo3, zo4, zo5, zo6, zo7⟩ := box8 BO6
    have HC6 := Kd.C_below HR.out HW6
    go_wp2_with (first
      | (go_at_call 184; refine (check0 _).mono ?_; rintro e w7 ⟨rfl, rfl⟩)
      | (go_at_call 185; refine (rstructure (A0 := A0) (c0 := c0) (m := 99) 1 HC6 hc0 BR6).mono ?_; rintro e w8 ⟨v8, rfl, ho8, hb8⟩; obtain ⟨Av, cv, rfl⟩ := Kd.R_slice ho8; have BZ8 := blk_below BZ6 hb8; have BR8 := blk_below BR6 hb8; have HW8 : Below W0.heap.size W0 w8 := below_then HW6 hb8; obtain ⟨cy0, cy1, cy2, cy3, cy4, zy0, zy1, zy2, zy3, zy4⟩ := box5 BZ8))
    have BF : (((((w8.setCell ⟨w.heap.size, 0, none⟩ (.int .i64 1)).setCell ⟨w.heap.size, 1, none⟩ (.int .i64 0)).setCell ⟨w.heap.size, 2, none⟩ (.int .i64 0)).setCell ⟨w.heap.size, 3, none⟩ (.slice Av d8.length cv)).setCell ⟨w.heap.size, 4, none⟩ (.slice none 0 0)).heap[w.heap.size]? = some (.cells #[.int .i64 1, .int .i64 0, .int .i64 0, .slice Av d8.length cv, .slice none 0 0] 67 (0, 0)) := by refine blk_put (cs := #[.int .i64 1, .int .i64 0, .int .i64 0, .slice Av d8.length cv, .slice none 0 0]) ?_ 4 _ rfl; refine blk_put (cs := #[.int .i64 1, .int .i64 0, .int .i64 0, .slice none 0 0, .slice none 0 0]) ?_ 3 _ rfl; refine blk_put (cs := #[.int .i64 1, .int .i64 0, .int .i64 0, .slice none 0 0, .slice none 0 0]) ?_ 2 _ rfl; refine blk_put (cs := #[.int .i64 1, .int .i64 0, .int .i64 0, .slice none 0 0, .slice none 0 0]) ?_ 1 _ rfl; refine blk_put (cs := #[.int .i64 0, .int .i64 0, .int .i64 0, .slice none 0 0, .slice none 0 0]) ?_ 0 _ rfl; exact BZ8
    have HF : Below W0.heap.size W0 (((((w8.setCell ⟨w.heap.size, 0, none⟩ (.int .i64 1)).setCell ⟨w.heap.size, 1, none⟩ (.int .i64 0)).setCell ⟨w.heap.size, 2, none⟩ (.int .i64 0)).setCell ⟨w.heap.size, 3, none⟩ (.slice Av d8.length cv)).setCell ⟨w.heap.size, 4, none⟩ (.slice none 0 0)) := by repeat (first | (with_reducible exact HW8) | refine below_set ?_ HW.out.size)
    have HO := Kd.R_mono (ok' := fun k => k ≠ gr) (Kd.R_lower (Kd.R_far (p := ⟨w.heap.size, 4, none⟩) (Kd.R_far (p := ⟨w.heap.size, 3, none⟩) (Kd.R_far (p := ⟨w.heap.size, 2, none⟩) (Kd.R_far (p := ⟨w.heap.size, 1, none⟩) (Kd.R_far (p := ⟨w.heap.size, 0, none⟩) (Kd.R_types (Kd.R_types ho8 BR8 (by decide)) BZ8 (by decide)) (fun _ hk => hk.2) (.int .i64 1)) (fun _ hk => hk.2) (.int .i64 0)) (fun _ hk => hk.2) (.int .i64 0)) (fun _ hk => hk.2) (.slice Av d8.length cv)) (fun _ hk => hk.2) (.slice none 0 0)) HW6.size) (fun _ hk => hk.1.2)
    have HG : (((((w8.setCell ⟨w.heap.size, 0, none⟩ (.int .i64 1)).setCell ⟨w.heap.size, 1, none⟩ (.int .i64 0)).setCell ⟨w.heap.size, 2, none⟩ (.int .i64 0)).setCell ⟨w.heap.size, 3, none⟩ (.slice Av d8.length cv)).setCell ⟨w.heap.size, 4, none⟩ (.slice none 0 0)).heap[gr]? = some (rO A0 c0 99) := (blk_far (p := ⟨w.heap.size, 4, none⟩) (blk_far (p := ⟨w.heap.size, 3, none⟩) (blk_far (p := ⟨w.heap.size, 2, none⟩) (blk_far (p := ⟨w.heap.size, 1, none⟩) (blk_far (p := ⟨w.heap.size, 0, none⟩) BR8 (Ne.symm hnz) (.int .i64 1)) (Ne.symm hnz) (.int .i64 0)) (Ne.symm hnz) (.int .i64 0)) (Ne.symm hnz) (.slice Av d8.length cv)) (Ne.symm hnz) (.slice none 0 0))
    clear cy0 cy1 cy2 cy3 cy4 zy0 zy1 zy2 zy3 zy4 co0 co1 co2 co3 co4 co5 co6 co7 zo0 zo1 zo2 zo3 zo4 zo5 zo6 zo7 BZ8 BR8 BO6 BZ6 BR6 HC6 hb8 ho8
    refine bodyPost_ret (results_cell_row rfl _ _ w.heap.size 67 _ (0, 0) _ rfl BF Tryz.underlying67 rfl (by kernel_rfl)) rfl ?_
    exact ⟨_, rfl, HO, HF, HG⟩
end Go.Proofs.YthghblmffdfbaaaGreatDoor.Tp
