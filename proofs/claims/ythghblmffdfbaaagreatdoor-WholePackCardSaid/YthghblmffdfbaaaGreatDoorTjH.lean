/- The top: denote.run at the run. -/
import Derived.Test.YthghblmffdfbaaaGreatDoorTeH
import Derived.Test.YthghblmffdfbaaaGreatDoorFr5H
import Derived.BigRegion
import Derived.Laws.EntriesVeiled
import Derived.Deep.RegionLaw

namespace Go.Proofs.YthghblmffdfbaaaGreatDoor.Tp
open Go Go.RowKit Go.Proofs.YthghblmffdfbaaaGreatDoor Go.Proofs.YthghblmffdfbaaaGreatDoor.M Go.Proofs.YthghblmffdfbaaaGreatDoor.PFrBase Go.Proofs.YthghblmffdfbaaaGreatDoor.QFrBase Go.Proofs.YthghblmffdfbaaaGreatDoorW.PrintWords Go.Proofs.YthghblmffdfbaaaGreatDoorW.PrintLast Go.Proofs.YthghblmffdfbaaaGreatDoorW.PrintMore
attribute [local go_sem] max2_int min2_int max_two min_two
set_option linter.unusedVariables false
set_option linter.unusedSimpArgs false
set_option maxHeartbeats 8000000
set_option maxRecDepth 100000
theorem run_idle (p q s : Addr) (w : World) :
    CallsD Tryz.prog 154 #[.pointer (some p), .pointer (some q), .pointer (some s)] .returning w fun e u' w' => e = .returned (.tuple #[]) ∧ u' = .returning ∧ w' = w := by
  refine callsD_of_wpS Tryz.func154 rfl fun c₀ cs hu => ?_
  apply wpS_seq
  apply wpS_region
  simp [wpOpsS, go_sem, recoverD, hu, Tryz.ntmps154, Exit.thenS]
  apply wpS_seq
  apply wpS_region
  simp [wpOpsS, go_sem, recoverD, hu, Tryz.ntmps154, Exit.thenS]
  refine wpS_cond (t := false) (by simp [Act.eval, Array.replicate]) ?_
  simp only [Bool.false_eq_true, if_false]
  refine wpS_of_wp (wp_skip ?_)
  cases c₀
  simp_all [bodyPostS, results, Tryz.results154]
theorem start100 : budget_Start.f 5 100 100 = some 100 := by kernel_rfl
theorem run {w : World} {bm : Nat} {A0 : Option Addr} {c0 : Nat} (hD : DecL w bm) (hr0 : Kd.C (Kd.slice 61 (Kd.int .u64)) w A0 1 ms) (hc0 : 1 ≤ c0) :
    Calls Tryz.prog 120 #[.slice A0 1 c0, .agg #[.int .i64 5, .int .i64 100, .int .i64 100]] w fun e w' => ∃ v0_ : Value, e = .returned (.tuple #[.agg #[.int .i64 1, .int .i64 0, .int .i64 0, v0_, .slice none 0 0], .agg #[.int .i64 99], .int .i64 0]) ∧ Kd.R (Kd.int .u8) 5 w' w.heap.size (fun k => True) v0_ d8 ∧ Below w.heap.size w w' := by
  have hmf : ∀ (fn : Fn) (first cap : Array Value) (w : World), (Instr.makeFunc fn first cap).run Tryz.prog w = .ok (.func fn first cap) w := fun _ _ _ _ => rfl
  obtain ⟨a, b, c, rfl, ha, hc, hC⟩ := ms_cells hr0
  have HR := Aside0.mk hr0
  have HD := Aside0.mk hD
  have HA := Aside0.mk ha
  clear hr0 hD ha hC
  go_enter_defers Tryz.func120, Tryz.ntmps120
  go_wp2_with (first | fail)
  have BL := blk_alloc (blk_alloc (blk_alloc (heap_alloc_new w (.cells #[.int .i64 5, .int .i64 100, .int .i64 100] 36 (0, 0))) (.cells #[.int .i64 0, .int .i64 0, .int .i64 0, .slice none 0 0, .slice none 0 0] 67 (0, 0))) (.cells #[.int .i64 0] 86 (0, 0))) (.cells #[.int .i64 0] 24 (0, 0))
  have BN := blk_alloc (blk_alloc (blk_new (w := w.alloc (.cells #[.int .i64 5, .int .i64 100, .int .i64 100] 36 (0, 0))) (o := .cells #[.int .i64 0, .int .i64 0, .int .i64 0, .slice none 0 0, .slice none 0 0] 67 (0, 0)) (g := w.heap.size + 1) (by simp)) (.cells #[.int .i64 0] 86 (0, 0))) (.cells #[.int .i64 0] 24 (0, 0))
  have BM := blk_alloc (blk_new (w := (w.alloc (.cells #[.int .i64 5, .int .i64 100, .int .i64 100] 36 (0, 0))).alloc (.cells #[.int .i64 0, .int .i64 0, .int .i64 0, .slice none 0 0, .slice none 0 0] 67 (0, 0))) (o := .cells #[.int .i64 0] 86 (0, 0)) (g := w.heap.size + 1 + 1) (by simp)) (.cells #[.int .i64 0] 24 (0, 0))
  have BY := blk_new (w := ((w.alloc (.cells #[.int .i64 5, .int .i64 100, .int .i64 100] 36 (0, 0))).alloc (.cells #[.int .i64 0, .int .i64 0, .int .i64 0, .slice none 0 0, .slice none 0 0] 67 (0, 0))).alloc (.cells #[.int .i64 0] 86 (0, 0))) (o := .cells #[.int .i64 0] 24 (0, 0)) (g := w.heap.size + 1 + 1 + 1) (by simp)
  have HB := below_alloc (below_alloc (below_alloc (below_alloc (Below.refl w.heap.size w) (.cells #[.int .i64 5, .int .i64 100, .int .i64 100] 36 (0, 0))) (.cells #[.int .i64 0, .int .i64 0, .int .i64 0, .slice none 0 0, .slice none 0 0] 67 (0, 0))) (.cells #[.int .i64 0] 86 (0, 0))) (.cells #[.int .i64 0] 24 (0, 0))
  generalize hw2 : (((w.alloc (.cells #[.int .i64 5, .int .i64 100, .int .i64 100] 36 (0, 0))).alloc (.cells #[.int .i64 0, .int .i64 0, .int .i64 0, .slice none 0 0, .slice none 0 0] 67 (0, 0))).alloc (.cells #[.int .i64 0] 86 (0, 0))).alloc (.cells #[.int .i64 0] 24 (0, 0)) = w2 at *
  clear hw2
  go_region_held3 (fun w' => w'.cell? ⟨w.heap.size, 0, none⟩ = some (.int .i64 5) ∧ w'.cell? ⟨w.heap.size, 1, none⟩ = some (.int .i64 100) ∧ w'.cell? ⟨w.heap.size, 2, none⟩ = some (.int .i64 100)) (first | with_reducible exact ⟨(blk_cell BL3 0).trans rfl, (blk_cell BL3 1).trans rfl, (blk_cell BL3 2).trans rfl⟩ | with_reducible exact ⟨(blk_cell (blk_drew BL) 0).trans rfl, (blk_cell (blk_drew BL) 1).trans rfl, (blk_cell (blk_drew BL) 2).trans rfl⟩ | with_reducible exact ⟨(blk_cell BL 0).trans rfl, (blk_cell BL 1).trans rfl, (blk_cell BL 2).trans rfl⟩ | with_reducible exact ⟨(blk_cell (blk_alloc BL3 _) 0).trans rfl, (blk_cell (blk_alloc BL3 _) 1).trans rfl, (blk_cell (blk_alloc BL3 _) 2).trans rfl⟩ | go_keep) (first | (go_at_call 40; refine (budget_Start.calls 5 100 100 100 _ start100).mono ?_; rintro e w3 ⟨rfl, hb3⟩; have BL3 := blk_below (blk_drew BL) hb3; have BN3 := blk_below (blk_drew BN) hb3; have BM3 := blk_below (blk_drew BM) hb3; have BY3 := blk_below (blk_drew BY) hb3; have HB3 : Below w.heap.size w w3 := below_then (below_drew1 HB) hb3))
  have BR4 : (w3.alloc (.cells #[.slice (some a) 1 c0, .int .i64 5, .int .i64 100, .int .i64 100, .int .i64 100] 257 (0, 0))).heap[w3.heap.size]? = some (rO (some a) c0 100) := heap_alloc_new w3 (.cells #[.slice (some a) 1 c0, .int .i64 5, .int .i64 100, .int .i64 100, .int .i64 100] 257 (0, 0))
  have HW4 := below_alloc (Below.refl w3.heap.size w3) (.cells #[.slice (some a) 1 c0, .int .i64 5, .int .i64 100, .int .i64 100, .int .i64 100] 257 (0, 0))
  have HB4 := below_alloc HB3 (.cells #[.slice (some a) 1 c0, .int .i64 5, .int .i64 100, .int .i64 100, .int .i64 100] 257 (0, 0))
  generalize hw4 : w3.alloc (.cells #[.slice (some a) 1 c0, .int .i64 5, .int .i64 100, .int .i64 100, .int .i64 100] 257 (0, 0)) = w4 at *
  clear hw4 BL BN BM BY BL3 hb3 HB
  have ha4 := (HB4.cell (World.block_lt_of_cell? w _ HA.out)).trans HA.out
  go_wp2_with (first
    | (go_at_call 155; refine (rvalue (W0 := w3) (bm := bm) (HD.out.below HB3) (Kd.C_below HR.out HB3) hc0 HW4 (Nat.le_refl _) BR4).mono ?_; rintro e w5 ⟨v5, rfl, ho5, hb5, hr5⟩; obtain ⟨Av, cv, rfl⟩ := Kd.R_slice ho5; have BN5 := blk_below BN3 hb5; have BM5 := blk_below BM3 hb5; have BY5 := blk_below BY3 hb5; have HB5 : Below w.heap.size w w5 := below_then HB3 hb5; obtain ⟨cn0, cn1, cn2, cn3, cn4, zn0, zn1, zn2, zn3, zn4⟩ := box5 BN5))
  have hl3 := blk_lt BN3
  have hm3 := blk_lt BM3
  have hy3 := blk_lt BY3
  have k1 : w.heap.size + 1 + 1 ≠ w.heap.size + 1 := by omega
  have k2 : w.heap.size + 1 + 1 + 1 ≠ w.heap.size + 1 := by omega
  have k3 : w3.heap.size ≠ w.heap.size + 1 := by omega
  have BN6 : (((((w5.setCell ⟨w.heap.size + 1, 0, none⟩ (.int .i64 1)).setCell ⟨w.heap.size + 1, 1, none⟩ (.int .i64 0)).setCell ⟨w.heap.size + 1, 2, none⟩ (.int .i64 0)).setCell ⟨w.heap.size + 1, 3, none⟩ (.slice Av d8.length cv)).setCell ⟨w.heap.size + 1, 4, none⟩ (.slice none 0 0)).heap[w.heap.size + 1]? = some (.cells #[.int .i64 1, .int .i64 0, .int .i64 0, .slice Av d8.length cv, .slice none 0 0] 67 (0, 0)) := by refine blk_put (cs := #[.int .i64 1, .int .i64 0, .int .i64 0, .slice Av d8.length cv, .slice none 0 0]) ?_ 4 _ rfl; refine blk_put (cs := #[.int .i64 1, .int .i64 0, .int .i64 0, .slice none 0 0, .slice none 0 0]) ?_ 3 _ rfl; refine blk_put (cs := #[.int .i64 1, .int .i64 0, .int .i64 0, .slice none 0 0, .slice none 0 0]) ?_ 2 _ rfl; refine blk_put (cs := #[.int .i64 1, .int .i64 0, .int .i64 0, .slice none 0 0, .slice none 0 0]) ?_ 1 _ rfl; refine blk_put (cs := #[.int .i64 0, .int .i64 0, .int .i64 0, .slice none 0 0, .slice none 0 0]) ?_ 0 _ rfl; exact BN5
  have BM6 := (blk_far (p := ⟨w.heap.size + 1, 4, none⟩) (blk_far (p := ⟨w.heap.size + 1, 3, none⟩) (blk_far (p := ⟨w.heap.size + 1, 2, none⟩) (blk_far (p := ⟨w.heap.size + 1, 1, none⟩) (blk_far (p := ⟨w.heap.size + 1, 0, none⟩) BM5 k1 (.int .i64 1)) k1 (.int .i64 0)) k1 (.int .i64 0)) k1 (.slice Av d8.length cv)) k1 (.slice none 0 0))
  have BY6 := (blk_far (p := ⟨w.heap.size + 1, 4, none⟩) (blk_far (p := ⟨w.heap.size + 1, 3, none⟩) (blk_far (p := ⟨w.heap.size + 1, 2, none⟩) (blk_far (p := ⟨w.heap.size + 1, 1, none⟩) (blk_far (p := ⟨w.heap.size + 1, 0, none⟩) BY5 k2 (.int .i64 1)) k2 (.int .i64 0)) k2 (.int .i64 0)) k2 (.slice Av d8.length cv)) k2 (.slice none 0 0))
  have BR6 : (((((w5.setCell ⟨w.heap.size + 1, 0, none⟩ (.int .i64 1)).setCell ⟨w.heap.size + 1, 1, none⟩ (.int .i64 0)).setCell ⟨w.heap.size + 1, 2, none⟩ (.int .i64 0)).setCell ⟨w.heap.size + 1, 3, none⟩ (.slice Av d8.length cv)).setCell ⟨w.heap.size + 1, 4, none⟩ (.slice none 0 0)).heap[w3.heap.size]? = some (rO (some a) c0 99) := (blk_far (p := ⟨w.heap.size + 1, 4, none⟩) (blk_far (p := ⟨w.heap.size + 1, 3, none⟩) (blk_far (p := ⟨w.heap.size + 1, 2, none⟩) (blk_far (p := ⟨w.heap.size + 1, 1, none⟩) (blk_far (p := ⟨w.heap.size + 1, 0, none⟩) hr5 k3 (.int .i64 1)) k3 (.int .i64 0)) k3 (.int .i64 0)) k3 (.slice Av d8.length cv)) k3 (.slice none 0 0))
  have HB6 : Below w.heap.size w (((((w5.setCell ⟨w.heap.size + 1, 0, none⟩ (.int .i64 1)).setCell ⟨w.heap.size + 1, 1, none⟩ (.int .i64 0)).setCell ⟨w.heap.size + 1, 2, none⟩ (.int .i64 0)).setCell ⟨w.heap.size + 1, 3, none⟩ (.slice Av d8.length cv)).setCell ⟨w.heap.size + 1, 4, none⟩ (.slice none 0 0)) := by repeat (first | (with_reducible exact HB5) | refine below_set ?_ (Nat.le_succ _))
  have HO6 := (Kd.R_far (p := ⟨w.heap.size + 1, 4, none⟩) (Kd.R_far (p := ⟨w.heap.size + 1, 3, none⟩) (Kd.R_far (p := ⟨w.heap.size + 1, 2, none⟩) (Kd.R_far (p := ⟨w.heap.size + 1, 1, none⟩) (Kd.R_far (p := ⟨w.heap.size + 1, 0, none⟩) (Kd.R_types ho5 BN5 (by decide)) (fun _ hk => hk.2) (.int .i64 1)) (fun _ hk => hk.2) (.int .i64 0)) (fun _ hk => hk.2) (.int .i64 0)) (fun _ hk => hk.2) (.slice Av d8.length cv)) (fun _ hk => hk.2) (.slice none 0 0))
  clear cn0 cn1 cn2 cn3 cn4 zn0 zn1 zn2 zn3 zn4 BN5 BM5 BY5 hr5 HB5 ho5 hb5
  generalize hw6 : (((((w5.setCell ⟨w.heap.size + 1, 0, none⟩ (.int .i64 1)).setCell ⟨w.heap.size + 1, 1, none⟩ (.int .i64 0)).setCell ⟨w.heap.size + 1, 2, none⟩ (.int .i64 0)).setCell ⟨w.heap.size + 1, 3, none⟩ (.slice Av d8.length cv)).setCell ⟨w.heap.size + 1, 4, none⟩ (.slice none 0 0)) = w6 at *
  have hle := HB3.size
  generalize hg4 : w3.heap.size = g4 at *
  have m1 : g4 ≠ w.heap.size + 1 := by omega
  have m2 : g4 ≠ w.heap.size + 1 + 1 := by omega
  have m3 : g4 ≠ w.heap.size + 1 + 1 + 1 := by omega
  clear hw6 hg4
  obtain ⟨cm0, zm0⟩ := box1 BM6
  obtain ⟨ck0, zk0⟩ := box1 BY6
  obtain ⟨cn0, cn1, cn2, cn3, cn4, zn0, zn1, zn2, zn3, zn4⟩ := box5 BN6
  have cr4 := (blk_cell BR6 4).trans rfl
  go_region
  clear cn0 cn1 cn2 cn3 cn4 zn0 zn1 zn2 zn3 zn4 cr4 cm0 zm0 ck0 zk0
  have BN7 : (((((((w6.setCell ⟨w.heap.size + 1, 0, none⟩ (.int .i64 1)).setCell ⟨w.heap.size + 1, 1, none⟩ (.int .i64 0)).setCell ⟨w.heap.size + 1, 2, none⟩ (.int .i64 0)).setCell ⟨w.heap.size + 1, 3, none⟩ (.slice Av d8.length cv)).setCell ⟨w.heap.size + 1, 4, none⟩ (.slice none 0 0)).setCell ⟨w.heap.size + 1 + 1, 0, none⟩ (.int .i64 99)).setCell ⟨w.heap.size + 1 + 1 + 1, 0, none⟩ (.int .i64 0)).drew.heap[w.heap.size + 1]? = some (.cells #[.int .i64 1, .int .i64 0, .int .i64 0, .slice Av d8.length cv, .slice none 0 0] 67 (0, 0)) := blk_drew (blk_far (p := ⟨w.heap.size + 1 + 1 + 1, 0, none⟩) (blk_far (p := ⟨w.heap.size + 1 + 1, 0, none⟩) (by refine blk_put (cs := #[.int .i64 1, .int .i64 0, .int .i64 0, .slice Av d8.length cv, .slice none 0 0]) ?_ 4 _ rfl; refine blk_put (cs := #[.int .i64 1, .int .i64 0, .int .i64 0, .slice Av d8.length cv, .slice none 0 0]) ?_ 3 _ rfl; refine blk_put (cs := #[.int .i64 1, .int .i64 0, .int .i64 0, .slice Av d8.length cv, .slice none 0 0]) ?_ 2 _ rfl; refine blk_put (cs := #[.int .i64 1, .int .i64 0, .int .i64 0, .slice Av d8.length cv, .slice none 0 0]) ?_ 1 _ rfl; refine blk_put (cs := #[.int .i64 1, .int .i64 0, .int .i64 0, .slice Av d8.length cv, .slice none 0 0]) ?_ 0 _ rfl; exact BN6) (Ne.symm k1) (.int .i64 99)) (Ne.symm k2) (.int .i64 0))
  have k4 : w.heap.size + 1 + 1 ≠ w.heap.size + 1 + 1 + 1 := by omega
  have BM7 : (((((((w6.setCell ⟨w.heap.size + 1, 0, none⟩ (.int .i64 1)).setCell ⟨w.heap.size + 1, 1, none⟩ (.int .i64 0)).setCell ⟨w.heap.size + 1, 2, none⟩ (.int .i64 0)).setCell ⟨w.heap.size + 1, 3, none⟩ (.slice Av d8.length cv)).setCell ⟨w.heap.size + 1, 4, none⟩ (.slice none 0 0)).setCell ⟨w.heap.size + 1 + 1, 0, none⟩ (.int .i64 99)).setCell ⟨w.heap.size + 1 + 1 + 1, 0, none⟩ (.int .i64 0)).drew.heap[w.heap.size + 1 + 1]? = some (.cells #[.int .i64 99] 86 (0, 0)) := blk_drew (blk_far (p := ⟨w.heap.size + 1 + 1 + 1, 0, none⟩) (blk_put (cs := #[.int .i64 0]) (blk_far (p := ⟨w.heap.size + 1, 4, none⟩) (blk_far (p := ⟨w.heap.size + 1, 3, none⟩) (blk_far (p := ⟨w.heap.size + 1, 2, none⟩) (blk_far (p := ⟨w.heap.size + 1, 1, none⟩) (blk_far (p := ⟨w.heap.size + 1, 0, none⟩) BM6 k1 (.int .i64 1)) k1 (.int .i64 0)) k1 (.int .i64 0)) k1 (.slice Av d8.length cv)) k1 (.slice none 0 0)) 0 (.int .i64 99) rfl) k4 (.int .i64 0))
  have BY7 : (((((((w6.setCell ⟨w.heap.size + 1, 0, none⟩ (.int .i64 1)).setCell ⟨w.heap.size + 1, 1, none⟩ (.int .i64 0)).setCell ⟨w.heap.size + 1, 2, none⟩ (.int .i64 0)).setCell ⟨w.heap.size + 1, 3, none⟩ (.slice Av d8.length cv)).setCell ⟨w.heap.size + 1, 4, none⟩ (.slice none 0 0)).setCell ⟨w.heap.size + 1 + 1, 0, none⟩ (.int .i64 99)).setCell ⟨w.heap.size + 1 + 1 + 1, 0, none⟩ (.int .i64 0)).drew.heap[w.heap.size + 1 + 1 + 1]? = some (.cells #[.int .i64 0] 24 (0, 0)) := blk_drew (blk_put (cs := #[.int .i64 0]) (blk_far (p := ⟨w.heap.size + 1 + 1, 0, none⟩) (blk_far (p := ⟨w.heap.size + 1, 4, none⟩) (blk_far (p := ⟨w.heap.size + 1, 3, none⟩) (blk_far (p := ⟨w.heap.size + 1, 2, none⟩) (blk_far (p := ⟨w.heap.size + 1, 1, none⟩) (blk_far (p := ⟨w.heap.size + 1, 0, none⟩) BY6 k2 (.int .i64 1)) k2 (.int .i64 0)) k2 (.int .i64 0)) k2 (.slice Av d8.length cv)) k2 (.slice none 0 0)) (Ne.symm k4) (.int .i64 99)) 0 (.int .i64 0) rfl)
  have q1 : w.heap.size ≤ w.heap.size + 1 := by omega
  have q2 : w.heap.size ≤ w.heap.size + 1 + 1 := by omega
  have q3 : w.heap.size ≤ w.heap.size + 1 + 1 + 1 := by omega
  have HB7 : Below w.heap.size w (((((((w6.setCell ⟨w.heap.size + 1, 0, none⟩ (.int .i64 1)).setCell ⟨w.heap.size + 1, 1, none⟩ (.int .i64 0)).setCell ⟨w.heap.size + 1, 2, none⟩ (.int .i64 0)).setCell ⟨w.heap.size + 1, 3, none⟩ (.slice Av d8.length cv)).setCell ⟨w.heap.size + 1, 4, none⟩ (.slice none 0 0)).setCell ⟨w.heap.size + 1 + 1, 0, none⟩ (.int .i64 99)).setCell ⟨w.heap.size + 1 + 1 + 1, 0, none⟩ (.int .i64 0)).drew := below_drew1 (by repeat (first | (with_reducible exact HB6) | refine below_set ?_ q1 | refine below_set ?_ q2 | refine below_set ?_ q3))
  have HO7 := Kd.R_drew (Kd.R_mono (ok' := fun _ => True) (Kd.R_far (p := ⟨w.heap.size + 1 + 1 + 1, 0, none⟩) (Kd.R_far (p := ⟨w.heap.size + 1 + 1, 0, none⟩) (Kd.R_far (p := ⟨w.heap.size + 1, 4, none⟩) (Kd.R_far (p := ⟨w.heap.size + 1, 3, none⟩) (Kd.R_far (p := ⟨w.heap.size + 1, 2, none⟩) (Kd.R_far (p := ⟨w.heap.size + 1, 1, none⟩) (Kd.R_far (p := ⟨w.heap.size + 1, 0, none⟩) (Kd.R_types (Kd.R_types (Kd.R_types HO6 BN6 (by decide)) BM6 (by decide)) BY6 (by decide)) (fun _ hk => hk.1.1.2) (.int .i64 1)) (fun _ hk => hk.1.1.2) (.int .i64 0)) (fun _ hk => hk.1.1.2) (.int .i64 0)) (fun _ hk => hk.1.1.2) (.slice Av d8.length cv)) (fun _ hk => hk.1.1.2) (.slice none 0 0)) (fun _ hk => hk.1.2) (.int .i64 99)) (fun _ hk => hk.2) (.int .i64 0)) (fun _ _ => trivial))
  go_wp2
  generalize (((((((w6.setCell ⟨w.heap.size + 1, 0, none⟩ (.int .i64 1)).setCell ⟨w.heap.size + 1, 1, none⟩ (.int .i64 0)).setCell ⟨w.heap.size + 1, 2, none⟩ (.int .i64 0)).setCell ⟨w.heap.size + 1, 3, none⟩ (.slice Av d8.length cv)).setCell ⟨w.heap.size + 1, 4, none⟩ (.slice none 0 0)).setCell ⟨w.heap.size + 1 + 1, 0, none⟩ (.int .i64 99)).setCell ⟨w.heap.size + 1 + 1 + 1, 0, none⟩ (.int .i64 0)).drew = w7 at *
  obtain ⟨cp0, cp1, cp2, cp3, cp4, zp0, zp1, zp2, zp3, zp4⟩ := box5 BN7
  obtain ⟨cq0, zq0⟩ := box1 BM7
  have c3 := (blk_cell BY7 0).trans rfl
  refine leaves_cons (f := 154) (args := #[.pointer (some ⟨w.heap.size + 1, 0, none⟩), .pointer (some ⟨w.heap.size + 1 + 1, 0, none⟩), .pointer (some ⟨w.heap.size + 1 + 1 + 1, 0, none⟩)]) (by simp) (by simp [go_sem]) ?_
  refine (run_idle _ _ _ _).mono ?_
  rintro e u' w'' ⟨rfl, rfl, rfl⟩
  simp [Leaves, settle, results, Tryz.results120, go_sem, cp0, cp1, cp2, cp3, cp4, cq0, c3]
  exact ⟨Kd.R_lower HO7 hle, HB7⟩
end Go.Proofs.YthghblmffdfbaaaGreatDoor.Tp

/- The top: trim at the run. -/
namespace Go.Proofs.YthghblmffdfbaaaGreatDoor.Tp
open Go Go.RowKit Go.Proofs.YthghblmffdfbaaaGreatDoor Go.Proofs.YthghblmffdfbaaaGreatDoor.M Go.Proofs.YthghblmffdfbaaaGreatDoor.PFrBase Go.Proofs.YthghblmffdfbaaaGreatDoor.QFrBase Go.Proofs.YthghblmffdfbaaaGreatDoorW.PrintWords Go.Proofs.YthghblmffdfbaaaGreatDoorW.PrintLast Go.Proofs.YthghblmffdfbaaaGreatDoorW.PrintMore
attribute [local go_sem] max2_int min2_int max_two min_two
set_option linter.unusedVariables false
set_option linter.unusedSimpArgs false
set_option maxHeartbeats 8000000
set_option maxRecDepth 100000
theorem isZ (x : Int) (w : World) : Calls Tryz.prog 202 #[.int .u8 x] w fun e w' => e = .returned (.bool (x == 0)) ∧ w = w' := by
  go_enter Tryz.func202, Tryz.ntmps202
  go_wp2
  go_ret
  exact ⟨rfl, rfl⟩
theorem d8_cells {w : World} {A : Option Addr} (h : Kd.C (Kd.int .u8) w A 8 d8) : ∃ ad, A = some ad ∧ w.cell? ad = some (.int .u8 5) ∧ w.cell? ⟨ad.block, ad.off + 1, none⟩ = some (.int .u8 0) ∧ w.cell? ⟨ad.block, ad.off + 2, none⟩ = some (.int .u8 0) ∧ w.cell? ⟨ad.block, ad.off + 3, none⟩ = some (.int .u8 0) ∧ w.cell? ⟨ad.block, ad.off + 4, none⟩ = some (.int .u8 0) ∧ w.cell? ⟨ad.block, ad.off + 5, none⟩ = some (.int .u8 0) ∧ w.cell? ⟨ad.block, ad.off + 6, none⟩ = some (.int .u8 0) ∧ w.cell? ⟨ad.block, ad.off + 7, none⟩ = some (.int .u8 0) := by
  obtain ⟨a0, e0, h0⟩ := Kd.at_int h 0 (by decide) (by decide)
  obtain ⟨a1, e1, h1⟩ := Kd.at_int h 1 (by decide) (by decide)
  obtain ⟨a2, e2, h2⟩ := Kd.at_int h 2 (by decide) (by decide)
  obtain ⟨a3, e3, h3⟩ := Kd.at_int h 3 (by decide) (by decide)
  obtain ⟨a4, e4, h4⟩ := Kd.at_int h 4 (by decide) (by decide)
  obtain ⟨a5, e5, h5⟩ := Kd.at_int h 5 (by decide) (by decide)
  obtain ⟨a6, e6, h6⟩ := Kd.at_int h 6 (by decide) (by decide)
  obtain ⟨a7, e7, h7⟩ := Kd.at_int h 7 (by decide) (by decide)
  subst e0
  cases e1; cases e2; cases e3; cases e4; cases e5; cases e6; cases e7
  have e : a0.add (Int.toNat 0) = a0 := by simp [Addr.add]
  rw [e] at h0
  exact ⟨a0, rfl, h0, h1, h2, h3, h4, h5, h6, h7⟩
theorem kept8 {w : World} {A : Option Addr} {c : Nat} (h : Kd.C (Kd.int .u8) w A 8 d8) :
    Calls Tryz.prog 201 #[.slice A 8 c, .func (.func 202) #[] #[]] w fun e w' => e = .returned (.int .i64 1) ∧ Drawn0 w w' := by
  obtain ⟨ad, rfl, f0, f1, f2, f3, f4, f5, f6, f7⟩ := d8_cells h
  clear h
  go_enter Tryz.func201, Tryz.ntmps201
  go_wp2_with (first | (go_at_call 202; refine (isZ _ _).mono ?_; rintro e w2 ⟨rfl, rfl⟩))
  refine wp_loop_rounds 9 ?_
  rw [rounds_succ]
  go_wp2_with (first | (go_at_call 202; refine (isZ _ _).mono ?_; rintro e w2 ⟨rfl, rfl⟩))
  rw [rounds_succ]
  go_wp2_with (first | (go_at_call 202; refine (isZ _ _).mono ?_; rintro e w2 ⟨rfl, rfl⟩))
  rw [rounds_succ]
  go_wp2_with (first | (go_at_call 202; refine (isZ _ _).mono ?_; rintro e w2 ⟨rfl, rfl⟩))
  rw [rounds_succ]
  go_wp2_with (first | (go_at_call 202; refine (isZ _ _).mono ?_; rintro e w2 ⟨rfl, rfl⟩))
  rw [rounds_succ]
  go_wp2_with (first | (go_at_call 202; refine (isZ _ _).mono ?_; rintro e w2 ⟨rfl, rfl⟩))
  rw [rounds_succ]
  go_wp2_with (first | (go_at_call 202; refine (isZ _ _).mono ?_; rintro e w2 ⟨rfl, rfl⟩))
  rw [rounds_succ]
  go_wp2_with (first | (go_at_call 202; refine (isZ _ _).mono ?_; rintro e w2 ⟨rfl, rfl⟩))
  rw [rounds_succ]
  go_wp2_with (first | (go_at_call 202; refine (isZ _ _).mono ?_; rintro e w2 ⟨rfl, rfl⟩))
  go_ret
  exact ⟨rfl, by repeat (first | exact Drawn0.refl _ | apply Drawn0.step)⟩
end Go.Proofs.YthghblmffdfbaaaGreatDoor.Tp

/- The top: trim.Words, trim.Pointers, trim.Trim at the run. -/
namespace Go.Proofs.YthghblmffdfbaaaGreatDoor.Tp
open Go Go.RowKit Go.Proofs.YthghblmffdfbaaaGreatDoor Go.Proofs.YthghblmffdfbaaaGreatDoor.M Go.Proofs.YthghblmffdfbaaaGreatDoor.PFrBase Go.Proofs.YthghblmffdfbaaaGreatDoor.QFrBase Go.Proofs.YthghblmffdfbaaaGreatDoorW.PrintWords Go.Proofs.YthghblmffdfbaaaGreatDoorW.PrintLast Go.Proofs.YthghblmffdfbaaaGreatDoorW.PrintMore
attribute [local go_sem] max2_int min2_int max_two min_two
set_option linter.unusedVariables false
set_option linter.unusedSimpArgs false
set_option maxHeartbeats 8000000
set_option maxRecDepth 100000
theorem twords {w : World} {A : Option Addr} {c : Nat} (h : Kd.C (Kd.int .u8) w A 8 d8) :
    Calls Tryz.prog 190 #[.slice A 8 c] w fun e w' => e = .returned (.int .i64 1) ∧ Drawn0 w w' := by
  have hmf : ∀ (fn : Fn) (first cap : Array Value) (w : World), (Instr.makeFunc fn first cap).run Tryz.prog w = .ok (.func fn first cap) w := fun _ _ _ _ => rfl
  have HC := Aside0.mk h
  clear h
  go_enter Tryz.func190, Tryz.ntmps190
  go_wp2_with (first | (go_at_call 201; refine (kept8 HC.out).mono ?_; rintro e w2 ⟨rfl, hd2⟩))
  go_ret
  exact ⟨rfl, hd2⟩
theorem tptrs (w : World) :
    Calls Tryz.prog 191 #[.slice none 0 0] w fun e w' => e = .returned (.int .i64 0) ∧ w = w' := by
  have hmf : ∀ (fn : Fn) (first cap : Array Value) (w : World), (Instr.makeFunc fn first cap).run Tryz.prog w = .ok (.func fn first cap) w := fun _ _ _ _ => rfl
  go_enter Tryz.func191, Tryz.ntmps191
  go_wp2
  refine wp_loop_rounds 1 ?_
  rw [rounds_succ]
  go_wp2
  go_ret
  exact ⟨rfl, rfl⟩
theorem trim {w : World} {A : Option Addr} {c : Nat} (h : Kd.C (Kd.int .u8) w A 8 d8) (hc : 8 ≤ c) :
    Calls Tryz.prog 166 #[.agg #[.int .i64 1, .int .i64 0, .int .i64 0, .slice A 8 c, .slice none 0 0]] w fun e w' => ∃ v0_ : Value, e = .returned (.agg #[.int .i64 1, .int .i64 0, .int .i64 0, v0_, .slice none 0 0]) ∧ Kd.R (Kd.int .u8) 5 w' w.heap.size (fun k => True) v0_ d8 ∧ Below w.heap.size w w' := by
  have HC := Aside0.mk h
  have HH := Aside0.mk hc
  clear h hc
  go_enter Tryz.func166, Tryz.ntmps166
  go_wp2_with (first
    | (go_at_call 190; refine (twords (Kd.C_below HC.out ?b1)).mono ?_; (case b1 => repeat (first | exact Below.refl _ _ | apply below_alloc | apply pw_below_drewN | apply below_drew1)); rintro e w2 ⟨rfl, hd2⟩)
    | (go_at_call 191; refine (tptrs _).mono ?_; rintro e w3 ⟨rfl, rfl⟩))
  have BP := blk_alloc (blk_alloc (heap_alloc_new w (.cells #[.int .i64 1, .int .i64 0, .int .i64 0, .slice A 8 c, .slice none 0 0] 67 (0, 0))) (.cells #[.int .i64 0, .int .i64 0, .int .i64 0, .slice none 0 0, .slice none 0 0] 67 (0, 0))) (.cells #[.int .i64 1, .int .i64 0, .int .i64 0, .slice none 0 0, .slice none 0 0] 67 (0, 0))
  have BZ := blk_alloc (blk_new (w := w.alloc (.cells #[.int .i64 1, .int .i64 0, .int .i64 0, .slice A 8 c, .slice none 0 0] 67 (0, 0))) (o := .cells #[.int .i64 0, .int .i64 0, .int .i64 0, .slice none 0 0, .slice none 0 0] 67 (0, 0)) (g := w.heap.size + 1) (by simp)) (.cells #[.int .i64 1, .int .i64 0, .int .i64 0, .slice none 0 0, .slice none 0 0] 67 (0, 0))
  have BO := blk_new (w := (w.alloc (.cells #[.int .i64 1, .int .i64 0, .int .i64 0, .slice A 8 c, .slice none 0 0] 67 (0, 0))).alloc (.cells #[.int .i64 0, .int .i64 0, .int .i64 0, .slice none 0 0, .slice none 0 0] 67 (0, 0))) (o := .cells #[.int .i64 1, .int .i64 0, .int .i64 0, .slice none 0 0, .slice none 0 0] 67 (0, 0)) (g := w.heap.size + 1 + 1) (by simp)
  have HB := below_alloc (below_alloc (below_alloc (Below.refl w.heap.size w) (.cells #[.int .i64 1, .int .i64 0, .int .i64 0, .slice A 8 c, .slice none 0 0] 67 (0, 0))) (.cells #[.int .i64 0, .int .i64 0, .int .i64 0, .slice none 0 0, .slice none 0 0] 67 (0, 0))) (.cells #[.int .i64 1, .int .i64 0, .int .i64 0, .slice none 0 0, .slice none 0 0] 67 (0, 0))
  generalize hw2 : ((w.alloc (.cells #[.int .i64 1, .int .i64 0, .int .i64 0, .slice A 8 c, .slice none 0 0] 67 (0, 0))).alloc (.cells #[.int .i64 0, .int .i64 0, .int .i64 0, .slice none 0 0, .slice none 0 0] 67 (0, 0))).alloc (.cells #[.int .i64 1, .int .i64 0, .int .i64 0, .slice none 0 0, .slice none 0 0] 67 (0, 0)) = w2 at *
  clear hw2
  have HC2 := Kd.C_below HC.out HB
  obtain ⟨ca0, ca1, ca2, ca3, ca4, za0, za1, za2, za3, za4⟩ := box5 BP
  go_quiet (fail)
  generalize hw3 : w2.drewN _ = w3
  have BP3 : w3.heap[w.heap.size]? = some (.cells #[.int .i64 1, .int .i64 0, .int .i64 0, .slice A 8 c, .slice none 0 0] 67 (0, 0)) := by rw [← hw3]; exact blk_drewN BP _
  have BZ3 : w3.heap[w.heap.size + 1]? = some (.cells #[.int .i64 0, .int .i64 0, .int .i64 0, .slice none 0 0, .slice none 0 0] 67 (0, 0)) := by rw [← hw3]; exact blk_drewN BZ _
  have BO3 : w3.heap[w.heap.size + 1 + 1]? = some (.cells #[.int .i64 1, .int .i64 0, .int .i64 0, .slice none 0 0, .slice none 0 0] 67 (0, 0)) := by rw [← hw3]; exact blk_drewN BO _
  have HB3 : Below w.heap.size w w3 := by rw [← hw3]; exact pw_below_drewN HB _
  have HC3 := Kd.C_below HC.out HB3
  clear ca0 ca1 ca2 ca3 ca4 za0 za1 za2 za3 za4 hw3 BP BZ BO HB HC2
  obtain ⟨cb0, cb1, cb2, cb3, cb4, zb0, zb1, zb2, zb3, zb4⟩ := box5 BP3
  go_wp2_with (first
    | (go_at_call 190; refine (twords HC3).mono ?_; rintro e w4 ⟨rfl, hd4⟩; have hb4 := hd4.below; clear hd4; have BP4 := blk_below BP3 hb4; have BZ4 := blk_below BZ3 hb4; have BO4 := blk_below BO3 hb4; have HB4 : Below w.heap.size w w4 := below_then HB3 hb4; have HC4 := Kd.C_below HC3 hb4)
    | (go_at_call 191; refine (tptrs _).mono ?_; rintro e w5 ⟨rfl, rfl⟩))
  have HL : (8 : Int) ≤ (c : Int) := by have := HH.out; omega
  have i8 : IntKind.i64.wrap (8 * 1) = 8 := by decide
  have i8' : IntKind.i64.wrap 8 = 8 := by decide
  go_quiet ((first | (go_at_call 190; exact Calls.quiet_of ((twords (A := A) (c := c) (Kd.C_drewN HC3 _)).mono fun _ _ ⟨he, hd⟩ => ⟨he, hd.out⟩)) | (go_at_call 191; exact Calls.quiet_of_same ((tptrs _).mono fun _ _ ⟨he, hd⟩ => ⟨he, hd.symm⟩))))
  generalize hw4 : w3.drewN _ = w4
  have BZ4 : w4.heap[w.heap.size + 1]? = some (.cells #[.int .i64 0, .int .i64 0, .int .i64 0, .slice none 0 0, .slice none 0 0] 67 (0, 0)) := by rw [← hw4]; exact blk_drewN BZ3 _
  have BO4 : w4.heap[w.heap.size + 1 + 1]? = some (.cells #[.int .i64 1, .int .i64 0, .int .i64 0, .slice none 0 0, .slice none 0 0] 67 (0, 0)) := by rw [← hw4]; exact blk_drewN BO3 _
  have HB4 : Below w.heap.size w w4 := by rw [← hw4]; exact pw_below_drewN HB3 _
  have HC4 := Kd.C_below HC.out HB4
  clear cb0 cb1 cb2 cb3 cb4 zb0 zb1 zb2 zb3 zb4 hw4 BP3 BZ3 BO3 HB3 HC3 HL i8 i8'
  obtain ⟨co0, co1, co2, co3, co4, zo0, zo1, zo2, zo3, zo4⟩ := box5 BO4
  go_wp2_with (first
    | ((with_reducible refine gate_builtin (b := .append) (xs := #[.tmp 32, .tmp 33]) rfl ?_); at_builtin; refine Kd.R_append_rows (Kd.int .u8) (w0 := w) w.heap.size rfl (.tmp 32) (.tmp 33) 22 5 (.int .u8 0) 1 rfl Tryz.underlying22 info5 rfl (by decide) (by omega) (.slice none 0 0) [] d8 A 8 c (fun _ => True) (fun _ => False) rfl rfl (Kd.R_nil _ _ _ _ _) HC4 (fun _ _ h => h) (fun _ h => h.elim) (fun _ _ => trivial) HB4 HB4.size (by simp) ?_; intro v6 w6 ho6 hb6 hg6 hat6; obtain ⟨Av, cv, rfl⟩ := Kd.R_slice ho6; have BO6 := blk_grown BO4 hg6 (by simp [Value.ownBlock]); obtain ⟨cq0, cq1, cq2, cq3, cq4, zq0, zq1, zq2, zq3, zq4⟩ := box5 BO6; have BZ6 := blk_grown BZ4 hg6 (by simp [Value.ownBlock]); obtain ⟨cr0, cr1, cr2, cr3, cr4, zr0, zr1, zr2, zr3, zr4⟩ := box5 BZ6))
  refine wp_loop_rounds 1 ?_
  rw [rounds_succ]
  go_wp2
  have j1 : w.heap.size + 1 ≠ w.heap.size + 1 + 1 := by omega
  have q1 : w.heap.size ≤ w.heap.size + 1 := by omega
  have q2 : w.heap.size ≤ w.heap.size + 1 + 1 := by omega
  have BF : ((((((w6.setCell ⟨w.heap.size + 1 + 1, 3, none⟩ (.slice Av d8.length cv)).setCell ⟨w.heap.size + 1, 0, none⟩ (.int .i64 1)).setCell ⟨w.heap.size + 1, 1, none⟩ (.int .i64 0)).setCell ⟨w.heap.size + 1, 2, none⟩ (.int .i64 0)).setCell ⟨w.heap.size + 1, 3, none⟩ (.slice Av d8.length cv)).setCell ⟨w.heap.size + 1, 4, none⟩ (.slice none 0 0)).heap[w.heap.size + 1]? = some (.cells #[.int .i64 1, .int .i64 0, .int .i64 0, .slice Av d8.length cv, .slice none 0 0] 67 (0, 0)) := by refine blk_put (cs := #[.int .i64 1, .int .i64 0, .int .i64 0, .slice Av d8.length cv, .slice none 0 0]) ?_ 4 _ rfl; refine blk_put (cs := #[.int .i64 1, .int .i64 0, .int .i64 0, .slice none 0 0, .slice none 0 0]) ?_ 3 _ rfl; refine blk_put (cs := #[.int .i64 1, .int .i64 0, .int .i64 0, .slice none 0 0, .slice none 0 0]) ?_ 2 _ rfl; refine blk_put (cs := #[.int .i64 1, .int .i64 0, .int .i64 0, .slice none 0 0, .slice none 0 0]) ?_ 1 _ rfl; refine blk_put (cs := #[.int .i64 0, .int .i64 0, .int .i64 0, .slice none 0 0, .slice none 0 0]) ?_ 0 _ rfl; exact blk_far (p := ⟨w.heap.size + 1 + 1, 3, none⟩) BZ6 j1 _
  have HF : Below w.heap.size w ((((((w6.setCell ⟨w.heap.size + 1 + 1, 3, none⟩ (.slice Av d8.length cv)).setCell ⟨w.heap.size + 1, 0, none⟩ (.int .i64 1)).setCell ⟨w.heap.size + 1, 1, none⟩ (.int .i64 0)).setCell ⟨w.heap.size + 1, 2, none⟩ (.int .i64 0)).setCell ⟨w.heap.size + 1, 3, none⟩ (.slice Av d8.length cv)).setCell ⟨w.heap.size + 1, 4, none⟩ (.slice none 0 0)) := by repeat (first | (with_reducible exact hb6) | refine below_set ?_ q1 | refine below_set ?_ q2)
  have HO := Kd.R_mono (ok' := fun _ => True) (Kd.R_far (p := ⟨w.heap.size + 1, 4, none⟩) (Kd.R_far (p := ⟨w.heap.size + 1, 3, none⟩) (Kd.R_far (p := ⟨w.heap.size + 1, 2, none⟩) (Kd.R_far (p := ⟨w.heap.size + 1, 1, none⟩) (Kd.R_far (p := ⟨w.heap.size + 1, 0, none⟩) (Kd.R_far (p := ⟨w.heap.size + 1 + 1, 3, none⟩) (Kd.R_types (Kd.R_types ho6 BO6 (by decide)) BZ6 (by decide)) (fun _ hk => hk.1.2) (.slice Av d8.length cv)) (fun _ hk => hk.2) (.int .i64 1)) (fun _ hk => hk.2) (.int .i64 0)) (fun _ hk => hk.2) (.int .i64 0)) (fun _ hk => hk.2) (.slice Av d8.length cv)) (fun _ hk => hk.2) (.slice none 0 0)) (fun _ _ => trivial)
  clear cq0 cq1 cq2 cq3 cq4 cr0 cr1 cr2 cr3 cr4 zq0 zq1 zq2 zq3 zq4 zr0 zr1 zr2 zr3 zr4
  refine bodyPost_ret (results_cell_row rfl _ _ (w.heap.size + 1) 67 _ (0, 0) _ rfl BF Tryz.underlying67 rfl (by kernel_rfl)) rfl ?_
  exact ⟨_, rfl, HO, HF⟩
end Go.Proofs.YthghblmffdfbaaaGreatDoor.Tp

/- The top: denote.Message at the run. -/
namespace Go.Proofs.YthghblmffdfbaaaGreatDoor.Tp
open Go Go.RowKit Go.Proofs.YthghblmffdfbaaaGreatDoor Go.Proofs.YthghblmffdfbaaaGreatDoor.M Go.Proofs.YthghblmffdfbaaaGreatDoor.PFrBase Go.Proofs.YthghblmffdfbaaaGreatDoor.QFrBase Go.Proofs.YthghblmffdfbaaaGreatDoorW.PrintWords Go.Proofs.YthghblmffdfbaaaGreatDoorW.PrintLast Go.Proofs.YthghblmffdfbaaaGreatDoorW.PrintMore
attribute [local go_sem] max2_int min2_int max_two min_two
set_option linter.unusedVariables false
set_option linter.unusedSimpArgs false
set_option maxHeartbeats 8000000
set_option maxRecDepth 100000
theorem message {w : World} {bm : Nat} {A0 : Option Addr} {c0 : Nat} (hD : DecL w bm) (hr0 : Kd.C (Kd.slice 61 (Kd.int .u64)) w A0 1 ms) (hc0 : 1 ≤ c0) :
    Calls Tryz.prog 128 #[.slice A0 1 c0, .agg #[.int .i64 5, .int .i64 100, .int .i64 100]] w fun e w' => ∃ v0_ : Value, e = .returned (.tuple #[.agg #[.int .i64 1, .int .i64 0, .int .i64 0, v0_, .slice none 0 0], .int .i64 0]) ∧ Kd.R (Kd.int .u8) 5 w' w.heap.size (fun k => True) v0_ d8 ∧ Below w.heap.size w w' := by
  have HR := Aside0.mk hr0
  have HD := Aside0.mk hD
  clear hr0 hD
  go_enter Tryz.func128, Tryz.ntmps128
  have HB := below_alloc (below_alloc (Below.refl w.heap.size w) (.cells #[.int .i64 5, .int .i64 100, .int .i64 100] 36 (0, 0))) (.cells #[.int .i64 0, .int .i64 0, .int .i64 0, .slice none 0 0, .slice none 0 0] 67 (0, 0))
  have BZ := blk_new (w := w.alloc (.cells #[.int .i64 5, .int .i64 100, .int .i64 100] 36 (0, 0))) (o := .cells #[.int .i64 0, .int .i64 0, .int .i64 0, .slice none 0 0, .slice none 0 0] 67 (0, 0)) (g := w.heap.size + 1) (by simp)
  go_wp2_with (first
    | (go_at_call 120; refine (run (HD.out.below HB) (A0 := A0) (c0 := c0) (Kd.C_below HR.out HB) hc0).mono ?_; rintro e w3 ⟨v3, rfl, ho3, hb3⟩; obtain ⟨Av, cv, rfl⟩ := Kd.R_slice ho3; have BZ3 := blk_below BZ hb3; have HB3 : Below w.heap.size w w3 := below_then HB hb3)
    | (go_at_call 166; refine (trim (A := Av) (c := cv) (Kd.C_below (Kd.R_reads' ho3).2.2 (below_alloc (below_alloc (Below.refl w3.heap.size w3) (.cells #[.int .i64 1, .int .i64 0, .int .i64 0, .slice Av d8.length cv, .slice none 0 0] 67 (0, 0))) (.cells #[.int .i64 99] 86 (0, 0)))) (Kd.R_reads' ho3).2.1).mono ?_; rintro e w5 ⟨v5, rfl, ho5, hb5⟩; obtain ⟨Aw, cw, rfl⟩ := Kd.R_slice ho5; have BZ5 := blk_below (blk_alloc (blk_alloc BZ3 (.cells #[.int .i64 1, .int .i64 0, .int .i64 0, .slice Av d8.length cv, .slice none 0 0] 67 (0, 0))) (.cells #[.int .i64 99] 86 (0, 0))) hb5; have HB5 : Below w.heap.size w w5 := below_then (below_alloc (below_alloc HB3 (.cells #[.int .i64 1, .int .i64 0, .int .i64 0, .slice Av d8.length cv, .slice none 0 0] 67 (0, 0))) (.cells #[.int .i64 99] 86 (0, 0))) hb5; obtain ⟨cr0, cr1, cr2, cr3, cr4, zr0, zr1, zr2, zr3, zr4⟩ := box5 BZ5))
  have q1 : w.heap.size ≤ w.heap.size + 1 := by omega
  have BF : (((((w5.setCell ⟨w.heap.size + 1, 0, none⟩ (.int .i64 1)).setCell ⟨w.heap.size + 1, 1, none⟩ (.int .i64 0)).setCell ⟨w.heap.size + 1, 2, none⟩ (.int .i64 0)).setCell ⟨w.heap.size + 1, 3, none⟩ (.slice Aw d8.length cw)).setCell ⟨w.heap.size + 1, 4, none⟩ (.slice none 0 0)).heap[w.heap.size + 1]? = some (.cells #[.int .i64 1, .int .i64 0, .int .i64 0, .slice Aw d8.length cw, .slice none 0 0] 67 (0, 0)) := by refine blk_put (cs := #[.int .i64 1, .int .i64 0, .int .i64 0, .slice Aw d8.length cw, .slice none 0 0]) ?_ 4 _ rfl; refine blk_put (cs := #[.int .i64 1, .int .i64 0, .int .i64 0, .slice none 0 0, .slice none 0 0]) ?_ 3 _ rfl; refine blk_put (cs := #[.int .i64 1, .int .i64 0, .int .i64 0, .slice none 0 0, .slice none 0 0]) ?_ 2 _ rfl; refine blk_put (cs := #[.int .i64 1, .int .i64 0, .int .i64 0, .slice none 0 0, .slice none 0 0]) ?_ 1 _ rfl; refine blk_put (cs := #[.int .i64 0, .int .i64 0, .int .i64 0, .slice none 0 0, .slice none 0 0]) ?_ 0 _ rfl; exact BZ5
  have HF : Below w.heap.size w (((((w5.setCell ⟨w.heap.size + 1, 0, none⟩ (.int .i64 1)).setCell ⟨w.heap.size + 1, 1, none⟩ (.int .i64 0)).setCell ⟨w.heap.size + 1, 2, none⟩ (.int .i64 0)).setCell ⟨w.heap.size + 1, 3, none⟩ (.slice Aw d8.length cw)).setCell ⟨w.heap.size + 1, 4, none⟩ (.slice none 0 0)) := by repeat (first | (with_reducible exact HB5) | refine below_set ?_ q1)
  have HO := Kd.R_mono (ok' := fun _ => True) (Kd.R_lower (Kd.R_far (p := ⟨w.heap.size + 1, 4, none⟩) (Kd.R_far (p := ⟨w.heap.size + 1, 3, none⟩) (Kd.R_far (p := ⟨w.heap.size + 1, 2, none⟩) (Kd.R_far (p := ⟨w.heap.size + 1, 1, none⟩) (Kd.R_far (p := ⟨w.heap.size + 1, 0, none⟩) (Kd.R_types ho5 BZ5 (by decide)) (fun _ hk => hk.2) (.int .i64 1)) (fun _ hk => hk.2) (.int .i64 0)) (fun _ hk => hk.2) (.int .i64 0)) (fun _ hk => hk.2) (.slice Aw d8.length cw)) (fun _ hk => hk.2) (.slice none 0 0)) (below_alloc (below_alloc HB3 (.cells #[.int .i64 1, .int .i64 0, .int .i64 0, .slice Av d8.length cv, .slice none 0 0] 67 (0, 0))) (.cells #[.int .i64 99] 86 (0, 0))).size) (fun _ _ => trivial)
  clear cr0 cr1 cr2 cr3 cr4 zr0 zr1 zr2 zr3 zr4
  refine bodyPost_ret (results_ct rfl _ _ (w.heap.size + 1) 67 _ (0, 0) _ rfl BF Tryz.underlying67 rfl (by kernel_rfl)) rfl ?_
  exact ⟨_, rfl, HO, HF⟩
end Go.Proofs.YthghblmffdfbaaaGreatDoor.Tp

/- The top: canonsize at the run. -/
namespace Go.Proofs.YthghblmffdfbaaaGreatDoor.Tp
open Go Go.RowKit Go.Proofs.YthghblmffdfbaaaGreatDoor Go.Proofs.YthghblmffdfbaaaGreatDoor.M Go.Proofs.YthghblmffdfbaaaGreatDoor.PFrBase Go.Proofs.YthghblmffdfbaaaGreatDoor.QFrBase Go.Proofs.YthghblmffdfbaaaGreatDoorW.PrintWords Go.Proofs.YthghblmffdfbaaaGreatDoorW.PrintLast Go.Proofs.YthghblmffdfbaaaGreatDoorW.PrintMore
attribute [local go_sem] max2_int min2_int max_two min_two
set_option linter.unusedVariables false
set_option linter.unusedSimpArgs false
set_option maxHeartbeats 8000000
set_option maxRecDepth 100000
theorem csObject (A : Option Addr) (c : Nat) (w : World) :
    Calls Tryz.prog 193 #[.agg #[.int .i64 1, .int .i64 0, .int .i64 0, .slice A 8 c, .slice none 0 0]] w fun e w' => e = .returned (.int .i64 1) ∧ Below w.heap.size w w' := by
  go_enter Tryz.func193, Tryz.ntmps193
  go_wp2
  go_ret
  exact ⟨rfl, below_alloc (Below.refl _ _) _⟩
theorem csVisit (A : Option Addr) (c : Nat) {w : World} {g : Nat} (q : Addr) (hs : w.heap[g]? = some (.cells #[.int .i64 0] 3 (0, 0))) :
    Calls Tryz.prog 192 #[.agg #[.int .i64 1, .int .i64 0, .int .i64 0, .slice A 8 c, .slice none 0 0], .pointer (some ⟨g, 0, none⟩), .pointer (some q)] w fun e w' => e = .returned (.tuple #[]) ∧ Below g w w' ∧ w'.heap[g]? = some (.cells #[.int .i64 1] 3 (0, 0)) := by
  have HS := Aside0.mk hs
  clear hs
  go_enter Tryz.func192, Tryz.ntmps192
  go_wp2_with (first | fail)
  have BN := heap_alloc_new w (.cells #[.int .i64 1, .int .i64 0, .int .i64 0, .slice A 8 c, .slice none 0 0] 67 (0, 0))
  have BS := blk_alloc HS.out (.cells #[.int .i64 1, .int .i64 0, .int .i64 0, .slice A 8 c, .slice none 0 0] 67 (0, 0))
  have hlt := blk_lt HS.out
  have HB := below_alloc (Below.refl w.heap.size w) (.cells #[.int .i64 1, .int .i64 0, .int .i64 0, .slice A 8 c, .slice none 0 0] 67 (0, 0))
  generalize hw2 : w.alloc (.cells #[.int .i64 1, .int .i64 0, .int .i64 0, .slice A 8 c, .slice none 0 0] 67 (0, 0)) = w2 at *
  have n1 : w.heap.size ≠ g := by omega
  have n2 : g ≠ w.heap.size := by omega
  have hle : g ≤ w.heap.size := by omega
  clear hw2 hlt
  have i1 : IntKind.i64.wrap (0 + 1) = 1 := by decide
  have i2 : IntKind.i64.wrap 1 = 1 := by decide
  have e0 : w2.cell? ⟨g, 0, none⟩ = some (.int .i64 0) := (blk_cell BS 0).trans rfl
  obtain ⟨p0, p1, p2, p3, p4⟩ : w2.cell? ⟨w.heap.size, 0, none⟩ = some (.int .i64 1) ∧ w2.cell? ⟨w.heap.size, 1, none⟩ = some (.int .i64 0) ∧ w2.cell? ⟨w.heap.size, 2, none⟩ = some (.int .i64 0) ∧ w2.cell? ⟨w.heap.size, 3, none⟩ = some (.slice A 8 c) ∧ w2.cell? ⟨w.heap.size, 4, none⟩ = some (.slice none 0 0) := ⟨(blk_cell BN 0).trans rfl, (blk_cell BN 1).trans rfl, (blk_cell BN 2).trans rfl, (blk_cell BN 3).trans rfl, (blk_cell BN 4).trans rfl⟩
  go_region_law (refine goes_ Tryz.func193 (by kernel_rfl) rfl #[.agg #[.int .i64 1, .int .i64 0, .int .i64 0, .slice A 8 c, .slice none 0 0]] (by rfl) rfl rfl (by first | rfl | simp [Act.eval, Act.put]) ?_; refine (csObject A c _).mono ?_; rintro e w3 ⟨rfl, hb3⟩; refine ⟨_, rfl, ?_⟩; have BS3 := blk_below (blk_drew BS) hb3; have BN3 := blk_below (blk_drew BN) hb3; have hB3 : Below w.heap.size w w3 := below_then (below_drew1 HB) hb3; have e3 : w3.cell? ⟨g, 0, none⟩ = some (.int .i64 0) := (blk_cell BS3 0).trans rfl; have e4 : w3.frozen? ⟨g, 0, none⟩ = false := blk_frozen BS3 0)
  all_goals
    have BF : (w3.setCell ⟨g, 0, none⟩ (.int .i64 1)).heap[g]? = some (.cells #[.int .i64 1] 3 (0, 0)) := blk_put BS3 0 _ rfl
    have BN4 := blk_far BN3 (p := ⟨g, 0, none⟩) n1 (.int .i64 1)
    have HF : Below g w (w3.setCell ⟨g, 0, none⟩ (.int .i64 1)) := (hB3.mono hle).setCell (Nat.le_refl _) _
    clear e0 e3 e4 BS3 BN3 BN BS hb3 hB3 HB p0 p1 p2 p3 p4
    generalize hw4 : w3.setCell ⟨g, 0, none⟩ (.int .i64 1) = w4 at *
    clear hw4
    have e5 := (blk_cell BN4 4).trans rfl
    go_wp2
    refine wp_loop_rounds 1 ?_
    rw [rounds_succ]
    go_wp2
    go_end0
    exact ⟨rfl, HF, BF⟩
theorem csNode (A : Option Addr) (c : Nat) (w : World) :
    Calls Tryz.prog 179 #[.agg #[.int .i64 1, .int .i64 0, .int .i64 0, .slice A 8 c, .slice none 0 0]] w fun e w' => e = .returned (.int .i64 1) ∧ Below w.heap.size w w' := by
  have hmf : ∀ (fn : Fn) (first cap : Array Value) (w : World), (Instr.makeFunc fn first cap).run Tryz.prog w = .ok (.func fn first cap) w := fun _ _ _ _ => rfl
  go_enter Tryz.func179, Tryz.ntmps179
  have BS := blk_alloc (blk_new (w := w.alloc (.cells #[.int .i64 1, .int .i64 0, .int .i64 0, .slice A 8 c, .slice none 0 0] 67 (0, 0))) (o := .cells #[.int .i64 0] 3 (0, 0)) (g := w.heap.size + 1) (by simp)) (.cells #[.func (.func 192) #[] #[.pointer (some ⟨w.heap.size + 1, 0, none⟩), .pointer (some ⟨w.heap.size + 1 + 1, 0, none⟩)]] 279 (0, 0))
  have HB := below_alloc (below_alloc (below_alloc (Below.refl w.heap.size w) (.cells #[.int .i64 1, .int .i64 0, .int .i64 0, .slice A 8 c, .slice none 0 0] 67 (0, 0))) (.cells #[.int .i64 0] 3 (0, 0))) (.cells #[.func (.func 192) #[] #[.pointer (some ⟨w.heap.size + 1, 0, none⟩), .pointer (some ⟨w.heap.size + 1 + 1, 0, none⟩)]] 279 (0, 0))
  go_wp2_with (first
    | (go_at_call 192; refine (csVisit A c ⟨w.heap.size + 1 + 1, 0, none⟩ BS).mono ?_; rintro e w3 ⟨rfl, hb3, BS3⟩; have e3 := (blk_cell BS3 0).trans rfl))
  go_ret
  exact ⟨rfl, HB.trans (hb3.mono (by omega))⟩
theorem csTotal (A : Option Addr) (c : Nat) (w : World) :
    Calls Tryz.prog 152 #[.agg #[.int .i64 1, .int .i64 0, .int .i64 0, .slice A 8 c, .slice none 0 0]] w fun e w' => e = .returned (.int .i64 2) ∧ Below w.heap.size w w' := by
  go_enter Tryz.func152, Tryz.ntmps152
  go_wp2_with (first
    | (go_at_call 179; refine (csNode A c _).mono ?_; rintro e w3 ⟨rfl, hb3⟩))
  go_ret
  exact ⟨rfl, below_then (below_alloc (Below.refl _ _) _) hb3⟩
end Go.Proofs.YthghblmffdfbaaaGreatDoor.Tp
